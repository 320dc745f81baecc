-- PRINTED BY print.sh 35421559b90ae4d0a3588c463048766b98c2df88dd9212a6774a882060cdf62d: not written by this session
import Derived.Test.YtnndjjpeaaloiaaPWindowReckonsx0
import Derived.Test.YtnndjjpeaaloiaaPWindowReckonsx1
namespace Go.Proofs.Ytnndjjpeaaloiaa.PWindowReckons
open Go.RowKit Go.Proofs.YtnndjjpeaaloiaaW.PrintWords Go.Proofs.YtnndjjpeaaloiaaW.PrintLast Go.Proofs.YtnndjjpeaaloiaaW.PrintMore
attribute [local go_sem] max2_int min2_int max_two min_two max_three min_three max_four min_four   -- for this text's walks alone
set_option linter.unusedVariables false
set_option linter.unusedSimpArgs false

/-! ### evenhandedlaw3_WindowReckons: function 3 -/
def evenhandedlaw3_WindowReckons.j0 : Nat → Int → Int → Int → Int → Int → Int → Int → Bool → Option (Bool)
  | 0, _, _, _, _, _, _, _, _ => none
  | k + 1, x0, x1, x2, x7, x8, x9, x10, x11 => (window_May.f x0 x1 x2).bind fun t125 => (if (t125 == x11) = true then ((window_Release.f x0 x1 x2).bind fun t126 => (if t126 = x7 then ((window_Deadline.f x0 x1 x2).bind fun t127 => (if t127 = x8 then ((window_Bit.f x0 x1 x2).bind fun t128 => (if t128 = x9 then ((window_Group.f k x0 x1 x2).bind fun t129 => (if t129 = x10 then ((window_Heavy.f x0 x1).bind fun t130 => ((evenhandedref1_TaskMay.f x0 x1).bind fun t131 => (if t131 = true then (some (t130 == (decide ((wrap64 (2 * x0)) ≥ x1)))) else (some (t130 == false))))) else (some false))) else (some false))) else (some false))) else (some false))) else (some false))
def evenhandedlaw3_WindowReckons.f (k : Nat) (a0 : Int) (a1 : Int) (a2 : Int) : Option (Bool) := (evenhandedlaw3_awake.f k).bind fun t119 => (if t119 = true then ((evenhandedref1_Window.f k a0 a1 a2).bind fun bt120 => ((evenhandedref1_TaskMay.f a0 a1).bind fun t124 => (if t124 = true then (if a2 ≥ 1 then (evenhandedlaw3_WindowReckons.j0 k a0 a1 a2 bt120.1 bt120.2.1 bt120.2.2.1 bt120.2.2.2 (decide (a2 ≤ a0))) else (evenhandedlaw3_WindowReckons.j0 k a0 a1 a2 bt120.1 bt120.2.1 bt120.2.2.1 bt120.2.2.2 false)) else (evenhandedlaw3_WindowReckons.j0 k a0 a1 a2 bt120.1 bt120.2.1 bt120.2.2.1 bt120.2.2.2 false)))) else (some false))
theorem evenhandedlaw3_WindowReckons.mono_l : ∀ k, (∀ y0 y1 y2 y3 y4 y5 y6 y7, LeO (evenhandedlaw3_WindowReckons.j0 k y0 y1 y2 y3 y4 y5 y6 y7) (evenhandedlaw3_WindowReckons.j0 (k + 1) y0 y1 y2 y3 y4 y5 y6 y7))
  | 0 => fun _ _ _ _ _ _ _ _ r h => by simp [evenhandedlaw3_WindowReckons.j0] at h
  | k + 1 => by
    have ih0 := evenhandedlaw3_WindowReckons.mono_l k
    · intro y0 y1 y2 y3 y4 y5 y6 y7
      unfold evenhandedlaw3_WindowReckons.j0
      repeat' first
      | (with_reducible exact ih0 _ _ _ _ _ _ _ _)
      | (with_reducible exact evenhandedlaw3_awake.mono _)
      | (with_reducible exact evenhandedref1_Window.mono _ _ _ _)
      | (with_reducible exact window_Group.mono _ _ _ _)
      | (with_reducible exact LeO.refl _)
      | (with_reducible exact LeO.none _)
      | (with_reducible refine LeO.ite ?_ ?_)
      | (with_reducible refine LeO.bind ?_ (fun _ => ?_))
      | exact ih0 _ _ _ _ _ _ _ _
      | exact evenhandedlaw3_awake.mono _
      | exact evenhandedref1_Window.mono _ _ _ _
      | exact window_Group.mono _ _ _ _
      | exact LeO.none _
      | refine LeO.ite ?_ ?_
      | refine LeO.bind ?_ (fun _ => ?_)
theorem evenhandedlaw3_WindowReckons.mono : ∀ a0 a1 a2 k, LeO (evenhandedlaw3_WindowReckons.f k a0 a1 a2) (evenhandedlaw3_WindowReckons.f (k + 1) a0 a1 a2) := by
  intro a0 a1 a2 k
  have ih0 := evenhandedlaw3_WindowReckons.mono_l k
  unfold evenhandedlaw3_WindowReckons.f
  repeat' first
      | (with_reducible exact ih0 _ _ _ _ _ _ _ _)
      | (with_reducible exact evenhandedlaw3_awake.mono _)
      | (with_reducible exact evenhandedref1_Window.mono _ _ _ _)
      | (with_reducible exact window_Group.mono _ _ _ _)
      | (with_reducible exact LeO.refl _)
      | (with_reducible exact LeO.none _)
      | (with_reducible refine LeO.ite ?_ ?_)
      | (with_reducible refine LeO.bind ?_ (fun _ => ?_))
      | exact ih0 _ _ _ _ _ _ _ _
      | exact evenhandedlaw3_awake.mono _
      | exact evenhandedref1_Window.mono _ _ _ _
      | exact window_Group.mono _ _ _ _
      | exact LeO.none _
      | refine LeO.ite ?_ ?_
      | refine LeO.bind ?_ (fun _ => ?_)
set_option maxHeartbeats 8000000 in
set_option maxRecDepth 100000 in
theorem evenhandedlaw3_WindowReckons.calls (k : Nat) (a0 : Int) (a1 : Int) (a2 : Int) (r : Bool) (w : World) (h : evenhandedlaw3_WindowReckons.f k a0 a1 a2 = some r) :
    Calls Try.prog 3 #[.int .i64 a0, .int .i64 a1, .int .i64 a2] w fun e w' => e = .returned (.bool r) ∧ Drawn0 w w' := by
  have H : ((evenhandedlaw3_awake.f k).bind fun t119 => (if t119 = true then ((evenhandedref1_Window.f k a0 a1 a2).bind fun bt120 => ((evenhandedref1_TaskMay.f a0 a1).bind fun t124 => (if t124 = true then (if a2 ≥ 1 then (evenhandedlaw3_WindowReckons.j0 k a0 a1 a2 bt120.1 bt120.2.1 bt120.2.2.1 bt120.2.2.2 (decide (a2 ≤ a0))) else (evenhandedlaw3_WindowReckons.j0 k a0 a1 a2 bt120.1 bt120.2.1 bt120.2.2.1 bt120.2.2.2 false)) else (evenhandedlaw3_WindowReckons.j0 k a0 a1 a2 bt120.1 bt120.2.1 bt120.2.2.1 bt120.2.2.2 false)))) else (some false))) = some r := h
  clear h
  replace H := Option.bind_eq_some_iff.mp H
  obtain ⟨t119, A40, H⟩ := H
  replace H : (if t119 = true then ((evenhandedref1_Window.f k a0 a1 a2).bind fun bt120 => ((evenhandedref1_TaskMay.f a0 a1).bind fun t124 => (if t124 = true then (if a2 ≥ 1 then (evenhandedlaw3_WindowReckons.j0 k a0 a1 a2 bt120.1 bt120.2.1 bt120.2.2.1 bt120.2.2.2 (decide (a2 ≤ a0))) else (evenhandedlaw3_WindowReckons.j0 k a0 a1 a2 bt120.1 bt120.2.1 bt120.2.2.1 bt120.2.2.2 false)) else (evenhandedlaw3_WindowReckons.j0 k a0 a1 a2 bt120.1 bt120.2.1 bt120.2.2.1 bt120.2.2.2 false)))) else (some false)) = some r := H
  have A4 := Aside0.mk A40
  clear A40
  by_cases c5 : t119 = true
  · subst c5
    have H1 : ((evenhandedref1_Window.f k a0 a1 a2).bind fun bt120 => ((evenhandedref1_TaskMay.f a0 a1).bind fun t124 => (if t124 = true then (if a2 ≥ 1 then (evenhandedlaw3_WindowReckons.j0 k a0 a1 a2 bt120.1 bt120.2.1 bt120.2.2.1 bt120.2.2.2 (decide (a2 ≤ a0))) else (evenhandedlaw3_WindowReckons.j0 k a0 a1 a2 bt120.1 bt120.2.1 bt120.2.2.1 bt120.2.2.2 false)) else (evenhandedlaw3_WindowReckons.j0 k a0 a1 a2 bt120.1 bt120.2.1 bt120.2.2.1 bt120.2.2.2 false)))) = some r := by rw [if_pos rfl] at H; exact H
    clear H
    have H := H1
    clear H1
    replace H := Option.bind_eq_some_iff.mp H
    obtain ⟨⟨t120, t121, t122, t123⟩, A60, H⟩ := H
    replace H : ((evenhandedref1_TaskMay.f a0 a1).bind fun t124 => (if t124 = true then (if a2 ≥ 1 then (evenhandedlaw3_WindowReckons.j0 k a0 a1 a2 t120 t121 t122 t123 (decide (a2 ≤ a0))) else (evenhandedlaw3_WindowReckons.j0 k a0 a1 a2 t120 t121 t122 t123 false)) else (evenhandedlaw3_WindowReckons.j0 k a0 a1 a2 t120 t121 t122 t123 false))) = some r := H
    have A6 := Aside0.mk A60
    clear A60
    have HC7 := Aside0.mk H
    clear H
    go_enter Try.func3, Try.ntmps3
    go_upto_region 4 with (first | ((with_reducible refine gate_callee (f := 11) rfl ?_); refine goesL_ (some 12) rfl rfl Try.func11 (by kernel_rfl) rfl #[] rfl (by (try simp only [List.map_toArray, List.map_cons, List.map_nil]); first | done | rfl | (simp only [List.length_drop, List.length_take]; rfl)) ?_; (with_reducible refine (evenhandedlaw3_awake.calls k  true _ A4.out).mono ?_); rintro e w' ⟨rfl, ⟨nd, rfl⟩⟩; refine ⟨_, rfl, ?_⟩) | ((with_reducible refine gate_callee (f := 12) rfl ?_); refine goesL_ (some 18) rfl rfl Try.func12 (by kernel_rfl) rfl #[.int .i64 a0, .int .i64 a1, .int .i64 a2] rfl (by (try simp only [List.map_toArray, List.map_cons, List.map_nil]); first | done | rfl | (simp only [List.length_drop, List.length_take]; rfl)) ?_; (with_reducible refine (evenhandedref1_Window.calls k a0 a1 a2 t120 t121 t122 t123 _ A6.out).mono ?_); rintro e w' ⟨rfl, ⟨nd, rfl⟩⟩; refine ⟨_, rfl, ?_⟩))
    (try simp only [Act.put, List.setIfInBounds_toArray, List.set_cons_zero, List.set_cons_succ])
    go_cut [11] (fun v11 wc => ∃ (kq : Nat) (x11_6 : Bool), v11 = .bool x11_6 ∧ Aside0 (evenhandedlaw3_WindowReckons.j0 kq a0 a1 a2 t120 t121 t122 t123 x11_6 = some r) ∧ Aside0 (kq ≤ k) ∧ Drawn0 w wc)
    case first =>
      have H := HC7.out
      clear HC7
      replace H := Option.bind_eq_some_iff.mp H
      obtain ⟨t124, A80, H⟩ := H
      replace H : (if t124 = true then (if a2 ≥ 1 then (evenhandedlaw3_WindowReckons.j0 k a0 a1 a2 t120 t121 t122 t123 (decide (a2 ≤ a0))) else (evenhandedlaw3_WindowReckons.j0 k a0 a1 a2 t120 t121 t122 t123 false)) else (evenhandedlaw3_WindowReckons.j0 k a0 a1 a2 t120 t121 t122 t123 false)) = some r := H
      have A8 := Aside0.mk A80
      clear A80
      by_cases c9 : t124 = true
      · subst c9
        have H1 : (if a2 ≥ 1 then (evenhandedlaw3_WindowReckons.j0 k a0 a1 a2 t120 t121 t122 t123 (decide (a2 ≤ a0))) else (evenhandedlaw3_WindowReckons.j0 k a0 a1 a2 t120 t121 t122 t123 false)) = some r := by rw [if_pos rfl] at H; exact H
        clear H
        have H := H1
        clear H1
        by_cases c10 : a2 ≥ 1
        · rw [if_pos c10] at H
          have c10b0 : decide (1 ≤ a2) = true := decide_eq_true c10
          clear c10
          (first | rw [c10b0] | (simp only [i64_w, i32_w]; rw [c10b0]) | skip)
          have H' := Aside0.mk H
          clear H
          go_wp2_with (first | ((with_reducible refine gate_callee (f := 13) rfl ?_); refine goesL_ (some 25) rfl rfl Try.func13 (by kernel_rfl) rfl #[.int .i64 a0, .int .i64 a1] rfl (by (try simp only [List.map_toArray, List.map_cons, List.map_nil]); first | done | rfl | (simp only [List.length_drop, List.length_take]; rfl)) ?_; (with_reducible refine (evenhandedref1_TaskMay.calls a0 a1 true _ A8.out).mono ?_); rintro e w' ⟨rfl, ⟨nd, rfl⟩⟩; refine ⟨_, rfl, ?_⟩))
          go_meet
          case rel => exact ⟨_, (decide (a2 ≤ a0)), (by first | rfl | (simp; done) | (simp [*]; done)), H', ⟨by first | omega | exact Nat.le_refl _⟩, by repeat (first | exact Drawn0.refl _ | apply Drawn0.step)⟩
        · rw [if_neg c10] at H
          have c10b0 : decide (1 ≤ a2) = false := decide_eq_false c10
          clear c10
          (first | rw [c10b0] | (simp only [i64_w, i32_w]; rw [c10b0]) | skip)
          have H' := Aside0.mk H
          clear H
          go_wp2_with (first | ((with_reducible refine gate_callee (f := 13) rfl ?_); refine goesL_ (some 25) rfl rfl Try.func13 (by kernel_rfl) rfl #[.int .i64 a0, .int .i64 a1] rfl (by (try simp only [List.map_toArray, List.map_cons, List.map_nil]); first | done | rfl | (simp only [List.length_drop, List.length_take]; rfl)) ?_; (with_reducible refine (evenhandedref1_TaskMay.calls a0 a1 true _ A8.out).mono ?_); rintro e w' ⟨rfl, ⟨nd, rfl⟩⟩; refine ⟨_, rfl, ?_⟩))
          go_meet
          case rel => exact ⟨_, (false), (by first | rfl | (simp; done) | (simp [*]; done)), H', ⟨by first | omega | exact Nat.le_refl _⟩, by repeat (first | exact Drawn0.refl _ | apply Drawn0.step)⟩
      · replace c9 := Bool.eq_false_iff.mpr c9
        subst c9
        have H1 : (evenhandedlaw3_WindowReckons.j0 k a0 a1 a2 t120 t121 t122 t123 false) = some r := by rw [if_neg (show ¬ (false = true) by decide)] at H; exact H
        clear H
        have H := H1
        clear H1
        have H' := Aside0.mk H
        clear H
        go_wp2_with (first | ((with_reducible refine gate_callee (f := 13) rfl ?_); refine goesL_ (some 25) rfl rfl Try.func13 (by kernel_rfl) rfl #[.int .i64 a0, .int .i64 a1] rfl (by (try simp only [List.map_toArray, List.map_cons, List.map_nil]); first | done | rfl | (simp only [List.length_drop, List.length_take]; rfl)) ?_; (with_reducible refine (evenhandedref1_TaskMay.calls a0 a1 false _ A8.out).mono ?_); rintro e w' ⟨rfl, ⟨nd, rfl⟩⟩; refine ⟨_, rfl, ?_⟩))
        go_meet
        case rel => exact ⟨_, (false), (by first | rfl | (simp; done) | (simp [*]; done)), H', ⟨by first | omega | exact Nat.le_refl _⟩, by repeat (first | exact Drawn0.refl _ | apply Drawn0.step)⟩
    case rest =>
      clear HC7
      try clear c1
      try clear p2
      try clear c3
      try clear c5
      try clear c9
      try clear c10
      try clear c10b0
      obtain ⟨kq, x11_6, rfl, HA, HJ6, ⟨mc6, rfl⟩⟩ := hcut
      cases kq with
      | zero => exact absurd HA.out (by simp [evenhandedlaw3_WindowReckons.j0])
      | succ kj6 =>
        have H := HA.out
        clear HA
        simp only [evenhandedlaw3_WindowReckons.j0] at H
        replace H := Option.bind_eq_some_iff.mp H
        obtain ⟨t125, A110, H⟩ := H
        replace H : (if (t125 == x11_6) = true then ((window_Release.f a0 a1 a2).bind fun t126 => (if t126 = t120 then ((window_Deadline.f a0 a1 a2).bind fun t127 => (if t127 = t121 then ((window_Bit.f a0 a1 a2).bind fun t128 => (if t128 = t122 then ((window_Group.f kj6 a0 a1 a2).bind fun t129 => (if t129 = t123 then ((window_Heavy.f a0 a1).bind fun t130 => ((evenhandedref1_TaskMay.f a0 a1).bind fun t131 => (if t131 = true then (some (t130 == (decide ((wrap64 (2 * a0)) ≥ a1)))) else (some (t130 == false))))) else (some false))) else (some false))) else (some false))) else (some false))) else (some false)) = some r := H
        have A11 := Aside0.mk A110
        clear A110
        by_cases c12 : (t125 == x11_6) = true
        · rw [if_pos c12] at H
          have c12b0 : (t125 == x11_6) = true := c12
          (try (have c12b1 : decide (t125 = x11_6) = true := by simpa using c12))
          (try (have c12b2 : (t125 == x11_6) = true := by simpa using c12))
          clear c12
          replace H := Option.bind_eq_some_iff.mp H
          obtain ⟨t126, A130, H⟩ := H
          replace H : (if t126 = t120 then ((window_Deadline.f a0 a1 a2).bind fun t127 => (if t127 = t121 then ((window_Bit.f a0 a1 a2).bind fun t128 => (if t128 = t122 then ((window_Group.f kj6 a0 a1 a2).bind fun t129 => (if t129 = t123 then ((window_Heavy.f a0 a1).bind fun t130 => ((evenhandedref1_TaskMay.f a0 a1).bind fun t131 => (if t131 = true then (some (t130 == (decide ((wrap64 (2 * a0)) ≥ a1)))) else (some (t130 == false))))) else (some false))) else (some false))) else (some false))) else (some false)) = some r := H
          have A13 := Aside0.mk A130
          clear A130
          by_cases c14 : t126 = t120
          · rw [if_pos c14] at H
            have c14b0 : (t126 == t120) = true := beq_iff_eq.mpr c14
            have c14b1 : (t126 != t120) = false := bne_eq_false_iff_eq.mpr c14
            clear c14
            replace H := Option.bind_eq_some_iff.mp H
            obtain ⟨t127, A150, H⟩ := H
            replace H : (if t127 = t121 then ((window_Bit.f a0 a1 a2).bind fun t128 => (if t128 = t122 then ((window_Group.f kj6 a0 a1 a2).bind fun t129 => (if t129 = t123 then ((window_Heavy.f a0 a1).bind fun t130 => ((evenhandedref1_TaskMay.f a0 a1).bind fun t131 => (if t131 = true then (some (t130 == (decide ((wrap64 (2 * a0)) ≥ a1)))) else (some (t130 == false))))) else (some false))) else (some false))) else (some false)) = some r := H
            have A15 := Aside0.mk A150
            clear A150
            by_cases c16 : t127 = t121
            · rw [if_pos c16] at H
              have c16b0 : (t127 == t121) = true := beq_iff_eq.mpr c16
              have c16b1 : (t127 != t121) = false := bne_eq_false_iff_eq.mpr c16
              clear c16
              replace H := Option.bind_eq_some_iff.mp H
              obtain ⟨t128, A170, H⟩ := H
              replace H : (if t128 = t122 then ((window_Group.f kj6 a0 a1 a2).bind fun t129 => (if t129 = t123 then ((window_Heavy.f a0 a1).bind fun t130 => ((evenhandedref1_TaskMay.f a0 a1).bind fun t131 => (if t131 = true then (some (t130 == (decide ((wrap64 (2 * a0)) ≥ a1)))) else (some (t130 == false))))) else (some false))) else (some false)) = some r := H
              have A17 := Aside0.mk A170
              clear A170
              by_cases c18 : t128 = t122
              · rw [if_pos c18] at H
                have c18b0 : (t128 == t122) = true := beq_iff_eq.mpr c18
                have c18b1 : (t128 != t122) = false := bne_eq_false_iff_eq.mpr c18
                clear c18
                replace H := Option.bind_eq_some_iff.mp H
                obtain ⟨t129, A190, H⟩ := H
                replace H : (if t129 = t123 then ((window_Heavy.f a0 a1).bind fun t130 => ((evenhandedref1_TaskMay.f a0 a1).bind fun t131 => (if t131 = true then (some (t130 == (decide ((wrap64 (2 * a0)) ≥ a1)))) else (some (t130 == false))))) else (some false)) = some r := H
                have A19 := Aside0.mk A190
                clear A190
                by_cases c20 : t129 = t123
                · rw [if_pos c20] at H
                  have c20b0 : (t129 == t123) = true := beq_iff_eq.mpr c20
                  have c20b1 : (t129 != t123) = false := bne_eq_false_iff_eq.mpr c20
                  clear c20
                  replace H := Option.bind_eq_some_iff.mp H
                  obtain ⟨t130, A210, H⟩ := H
                  replace H : ((evenhandedref1_TaskMay.f a0 a1).bind fun t131 => (if t131 = true then (some (t130 == (decide ((wrap64 (2 * a0)) ≥ a1)))) else (some (t130 == false)))) = some r := H
                  have A21 := Aside0.mk A210
                  clear A210
                  replace H := Option.bind_eq_some_iff.mp H
                  obtain ⟨t131, A220, H⟩ := H
                  replace H : (if t131 = true then (some (t130 == (decide ((wrap64 (2 * a0)) ≥ a1)))) else (some (t130 == false))) = some r := H
                  have A22 := Aside0.mk A220
                  clear A220
                  by_cases c23 : t131 = true
                  · subst c23
                    have H1 : (some (t130 == (decide ((wrap64 (2 * a0)) ≥ a1)))) = some r := by rw [if_pos rfl] at H; exact H
                    clear H
                    have H := H1
                    clear H1
                    obtain rfl := Option.some.inj H
                    go_wp2_with (first | ((with_reducible refine gate_callee (f := 14) rfl ?_); refine goesL_ (some 38) rfl rfl Try.func14 (by kernel_rfl) rfl #[.int .i64 a0, .int .i64 a1, .int .i64 a2] rfl (by (try simp only [List.map_toArray, List.map_cons, List.map_nil]); first | done | rfl | (simp only [List.length_drop, List.length_take]; rfl)) ?_; (with_reducible refine (window_May.calls a0 a1 a2 t125 _ A11.out).mono ?_); rintro e w' ⟨rfl, ⟨nd, rfl⟩⟩; refine ⟨_, rfl, ?_⟩) | (go_at_call 15; (with_reducible refine (window_Release.calls a0 a1 a2 t126 _ A13.out).mono ?_); rintro e w' ⟨rfl, ⟨nd, rfl⟩⟩) | (go_at_call 16; (with_reducible refine (window_Deadline.calls a0 a1 a2 t127 _ A15.out).mono ?_); rintro e w' ⟨rfl, ⟨nd, rfl⟩⟩) | (go_at_call 17; (with_reducible refine (window_Bit.calls a0 a1 a2 t128 _ A17.out).mono ?_); rintro e w' ⟨rfl, ⟨nd, rfl⟩⟩) | (go_at_call 18; (with_reducible refine (window_Group.calls kj6 a0 a1 a2 t129 _ A19.out).mono ?_); rintro e w' ⟨rfl, ⟨nd, rfl⟩⟩) | (go_at_call 19; (with_reducible refine (window_Heavy.calls a0 a1 t130 _ A21.out).mono ?_); rintro e w' ⟨rfl, ⟨nd, rfl⟩⟩) | (go_at_call 13; (with_reducible refine (evenhandedref1_TaskMay.calls a0 a1 true _ A22.out).mono ?_); rintro e w' ⟨rfl, ⟨nd, rfl⟩⟩))
                    go_ret
                    exact ⟨by first | rfl | (simp; done) | (simp [*]; done), by repeat (first | exact Drawn0.refl _ | apply Drawn0.step)⟩
                  · replace c23 := Bool.eq_false_iff.mpr c23
                    subst c23
                    have H1 : (some (t130 == false)) = some r := by rw [if_neg (show ¬ (false = true) by decide)] at H; exact H
                    clear H
                    have H := H1
                    clear H1
                    obtain rfl := Option.some.inj H
                    go_wp2_with (first | ((with_reducible refine gate_callee (f := 14) rfl ?_); refine goesL_ (some 38) rfl rfl Try.func14 (by kernel_rfl) rfl #[.int .i64 a0, .int .i64 a1, .int .i64 a2] rfl (by (try simp only [List.map_toArray, List.map_cons, List.map_nil]); first | done | rfl | (simp only [List.length_drop, List.length_take]; rfl)) ?_; (with_reducible refine (window_May.calls a0 a1 a2 t125 _ A11.out).mono ?_); rintro e w' ⟨rfl, ⟨nd, rfl⟩⟩; refine ⟨_, rfl, ?_⟩) | (go_at_call 15; (with_reducible refine (window_Release.calls a0 a1 a2 t126 _ A13.out).mono ?_); rintro e w' ⟨rfl, ⟨nd, rfl⟩⟩) | (go_at_call 16; (with_reducible refine (window_Deadline.calls a0 a1 a2 t127 _ A15.out).mono ?_); rintro e w' ⟨rfl, ⟨nd, rfl⟩⟩) | (go_at_call 17; (with_reducible refine (window_Bit.calls a0 a1 a2 t128 _ A17.out).mono ?_); rintro e w' ⟨rfl, ⟨nd, rfl⟩⟩) | (go_at_call 18; (with_reducible refine (window_Group.calls kj6 a0 a1 a2 t129 _ A19.out).mono ?_); rintro e w' ⟨rfl, ⟨nd, rfl⟩⟩) | (go_at_call 19; (with_reducible refine (window_Heavy.calls a0 a1 t130 _ A21.out).mono ?_); rintro e w' ⟨rfl, ⟨nd, rfl⟩⟩) | (go_at_call 13; (with_reducible refine (evenhandedref1_TaskMay.calls a0 a1 false _ A22.out).mono ?_); rintro e w' ⟨rfl, ⟨nd, rfl⟩⟩))
                    go_ret
                    exact ⟨by first | rfl | (simp; done) | (simp [*]; done), by repeat (first | exact Drawn0.refl _ | apply Drawn0.step)⟩
                · rw [if_neg c20] at H
                  have c20b0 : (t129 == t123) = false := beq_eq_false_iff_ne.mpr c20
                  have c20b1 : (t129 != t123) = true := bne_iff_ne.mpr c20
                  obtain rfl := Option.some.inj H
                  go_wp2_with (first | ((with_reducible refine gate_callee (f := 14) rfl ?_); refine goesL_ (some 38) rfl rfl Try.func14 (by kernel_rfl) rfl #[.int .i64 a0, .int .i64 a1, .int .i64 a2] rfl (by (try simp only [List.map_toArray, List.map_cons, List.map_nil]); first | done | rfl | (simp only [List.length_drop, List.length_take]; rfl)) ?_; (with_reducible refine (window_May.calls a0 a1 a2 t125 _ A11.out).mono ?_); rintro e w' ⟨rfl, ⟨nd, rfl⟩⟩; refine ⟨_, rfl, ?_⟩) | (go_at_call 15; (with_reducible refine (window_Release.calls a0 a1 a2 t126 _ A13.out).mono ?_); rintro e w' ⟨rfl, ⟨nd, rfl⟩⟩) | (go_at_call 16; (with_reducible refine (window_Deadline.calls a0 a1 a2 t127 _ A15.out).mono ?_); rintro e w' ⟨rfl, ⟨nd, rfl⟩⟩) | (go_at_call 17; (with_reducible refine (window_Bit.calls a0 a1 a2 t128 _ A17.out).mono ?_); rintro e w' ⟨rfl, ⟨nd, rfl⟩⟩) | (go_at_call 18; (with_reducible refine (window_Group.calls kj6 a0 a1 a2 t129 _ A19.out).mono ?_); rintro e w' ⟨rfl, ⟨nd, rfl⟩⟩))
                  go_ret
                  exact ⟨by first | rfl | (simp; done) | (simp [*]; done), by repeat (first | exact Drawn0.refl _ | apply Drawn0.step)⟩
              · rw [if_neg c18] at H
                have c18b0 : (t128 == t122) = false := beq_eq_false_iff_ne.mpr c18
                have c18b1 : (t128 != t122) = true := bne_iff_ne.mpr c18
                obtain rfl := Option.some.inj H
                go_wp2_with (first | ((with_reducible refine gate_callee (f := 14) rfl ?_); refine goesL_ (some 38) rfl rfl Try.func14 (by kernel_rfl) rfl #[.int .i64 a0, .int .i64 a1, .int .i64 a2] rfl (by (try simp only [List.map_toArray, List.map_cons, List.map_nil]); first | done | rfl | (simp only [List.length_drop, List.length_take]; rfl)) ?_; (with_reducible refine (window_May.calls a0 a1 a2 t125 _ A11.out).mono ?_); rintro e w' ⟨rfl, ⟨nd, rfl⟩⟩; refine ⟨_, rfl, ?_⟩) | (go_at_call 15; (with_reducible refine (window_Release.calls a0 a1 a2 t126 _ A13.out).mono ?_); rintro e w' ⟨rfl, ⟨nd, rfl⟩⟩) | (go_at_call 16; (with_reducible refine (window_Deadline.calls a0 a1 a2 t127 _ A15.out).mono ?_); rintro e w' ⟨rfl, ⟨nd, rfl⟩⟩) | (go_at_call 17; (with_reducible refine (window_Bit.calls a0 a1 a2 t128 _ A17.out).mono ?_); rintro e w' ⟨rfl, ⟨nd, rfl⟩⟩))
                go_ret
                exact ⟨by first | rfl | (simp; done) | (simp [*]; done), by repeat (first | exact Drawn0.refl _ | apply Drawn0.step)⟩
            · rw [if_neg c16] at H
              have c16b0 : (t127 == t121) = false := beq_eq_false_iff_ne.mpr c16
              have c16b1 : (t127 != t121) = true := bne_iff_ne.mpr c16
              obtain rfl := Option.some.inj H
              go_wp2_with (first | ((with_reducible refine gate_callee (f := 14) rfl ?_); refine goesL_ (some 38) rfl rfl Try.func14 (by kernel_rfl) rfl #[.int .i64 a0, .int .i64 a1, .int .i64 a2] rfl (by (try simp only [List.map_toArray, List.map_cons, List.map_nil]); first | done | rfl | (simp only [List.length_drop, List.length_take]; rfl)) ?_; (with_reducible refine (window_May.calls a0 a1 a2 t125 _ A11.out).mono ?_); rintro e w' ⟨rfl, ⟨nd, rfl⟩⟩; refine ⟨_, rfl, ?_⟩) | (go_at_call 15; (with_reducible refine (window_Release.calls a0 a1 a2 t126 _ A13.out).mono ?_); rintro e w' ⟨rfl, ⟨nd, rfl⟩⟩) | (go_at_call 16; (with_reducible refine (window_Deadline.calls a0 a1 a2 t127 _ A15.out).mono ?_); rintro e w' ⟨rfl, ⟨nd, rfl⟩⟩))
              go_ret
              exact ⟨by first | rfl | (simp; done) | (simp [*]; done), by repeat (first | exact Drawn0.refl _ | apply Drawn0.step)⟩
          · rw [if_neg c14] at H
            have c14b0 : (t126 == t120) = false := beq_eq_false_iff_ne.mpr c14
            have c14b1 : (t126 != t120) = true := bne_iff_ne.mpr c14
            obtain rfl := Option.some.inj H
            go_wp2_with (first | ((with_reducible refine gate_callee (f := 14) rfl ?_); refine goesL_ (some 38) rfl rfl Try.func14 (by kernel_rfl) rfl #[.int .i64 a0, .int .i64 a1, .int .i64 a2] rfl (by (try simp only [List.map_toArray, List.map_cons, List.map_nil]); first | done | rfl | (simp only [List.length_drop, List.length_take]; rfl)) ?_; (with_reducible refine (window_May.calls a0 a1 a2 t125 _ A11.out).mono ?_); rintro e w' ⟨rfl, ⟨nd, rfl⟩⟩; refine ⟨_, rfl, ?_⟩) | (go_at_call 15; (with_reducible refine (window_Release.calls a0 a1 a2 t126 _ A13.out).mono ?_); rintro e w' ⟨rfl, ⟨nd, rfl⟩⟩))
            go_ret
            exact ⟨by first | rfl | (simp; done) | (simp [*]; done), by repeat (first | exact Drawn0.refl _ | apply Drawn0.step)⟩
        · rw [if_neg c12] at H
          have c12b0 : (t125 == x11_6) = false := by simpa using c12
          (try (have c12b1 : decide (t125 = x11_6) = false := by simpa using c12))
          (try (have c12b2 : (t125 == x11_6) = false := by simpa using c12))
          (try (have c12b3 : ¬ (t125 = x11_6) := by simpa using c12))
          clear c12
          obtain rfl := Option.some.inj H
          go_wp2_with (first | ((with_reducible refine gate_callee (f := 14) rfl ?_); refine goesL_ (some 38) rfl rfl Try.func14 (by kernel_rfl) rfl #[.int .i64 a0, .int .i64 a1, .int .i64 a2] rfl (by (try simp only [List.map_toArray, List.map_cons, List.map_nil]); first | done | rfl | (simp only [List.length_drop, List.length_take]; rfl)) ?_; (with_reducible refine (window_May.calls a0 a1 a2 t125 _ A11.out).mono ?_); rintro e w' ⟨rfl, ⟨nd, rfl⟩⟩; refine ⟨_, rfl, ?_⟩))
          go_ret
          exact ⟨by first | rfl | (simp; done) | (simp [*]; done), by repeat (first | exact Drawn0.refl _ | apply Drawn0.step)⟩
  · replace c5 := Bool.eq_false_iff.mpr c5
    subst c5
    have H1 : (some false) = some r := by rw [if_neg (show ¬ (false = true) by decide)] at H; exact H
    clear H
    have H := H1
    clear H1
    obtain rfl := Option.some.inj H
    go_enter Try.func3, Try.ntmps3
    go_wp2_with (first | ((with_reducible refine gate_callee (f := 11) rfl ?_); refine goesL_ (some 12) rfl rfl Try.func11 (by kernel_rfl) rfl #[] rfl (by (try simp only [List.map_toArray, List.map_cons, List.map_nil]); first | done | rfl | (simp only [List.length_drop, List.length_take]; rfl)) ?_; (with_reducible refine (evenhandedlaw3_awake.calls k  false _ A4.out).mono ?_); rintro e w' ⟨rfl, ⟨nd, rfl⟩⟩; refine ⟨_, rfl, ?_⟩))
    go_ret
    exact ⟨by first | rfl | (simp; done) | (simp [*]; done), by repeat (first | exact Drawn0.refl _ | apply Drawn0.step)⟩

/-- THE ONE PURE STATEMENT of evenhandedlaw3_WindowReckons: yours. -/
def evenhandedlaw3_WindowReckons.Pure : Prop := ∀ (a0 : Int) (a1 : Int) (a2 : Int), (Lit.int .i64 a0).wf = true → (Lit.int .i64 a1).wf = true → (Lit.int .i64 a2).wf = true → ∃ k, evenhandedlaw3_WindowReckons.f k a0 a1 a2 = some true
theorem evenhandedlaw3_WindowReckons.walk (P : evenhandedlaw3_WindowReckons.Pure) (a0 : Int) (a1 : Int) (a2 : Int) (w : World) (w0 : (Lit.int .i64 a0).wf = true) (w1 : (Lit.int .i64 a1).wf = true) (w2 : (Lit.int .i64 a2).wf = true) :
    Calls Try.prog 3 #[.int .i64 a0, .int .i64 a1, .int .i64 a2] w fun e w' => e = .returned (.bool true) ∧ Below w.heap.size w w' := by
  obtain ⟨k, h⟩ := P a0 a1 a2 w0 w1 w2
  refine (evenhandedlaw3_WindowReckons.calls k a0 a1 a2 true w h).mono ?_
  rintro e w' ⟨rfl, hd⟩
  exact ⟨rfl, hd.below⟩

end Go.Proofs.Ytnndjjpeaaloiaa.PWindowReckons
