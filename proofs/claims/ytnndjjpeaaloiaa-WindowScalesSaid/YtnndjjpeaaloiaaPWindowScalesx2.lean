-- PRINTED BY print.sh 35421559b90ae4d0a3588c463048766b98c2df88dd9212a6774a882060cdf62d: not written by this session
import Derived.Test.YtnndjjpeaaloiaaPWindowScalesx0
import Derived.Test.YtnndjjpeaaloiaaPWindowScalesx1
namespace Go.Proofs.Ytnndjjpeaaloiaa.PWindowScales
open Go.RowKit Go.Proofs.YtnndjjpeaaloiaaW.PrintWords Go.Proofs.YtnndjjpeaaloiaaW.PrintLast Go.Proofs.YtnndjjpeaaloiaaW.PrintMore
attribute [local go_sem] max2_int min2_int max_two min_two max_three min_three max_four min_four   -- for this text's walks alone
set_option linter.unusedVariables false
set_option linter.unusedSimpArgs false

/-! ### evenhandedlaw3_WindowScales: function 8 -/
mutual
def evenhandedlaw3_WindowScales.j0 : Nat → Int → Int → Int → Bool → Option (Bool)
  | 0, _, _, _, _ => none
  | k + 1, x0, x1, x7, x28 => if x28 = true then (some true) else (evenhandedlaw3_WindowScales.l0 k x0 x1 x7 1)
def evenhandedlaw3_WindowScales.l0 : Nat → Int → Int → Int → Int → Option (Bool)
  | 0, _, _, _, _ => none
  | k + 1, x0, x1, x7, x8 => if x8 ≤ x0 then ((window_Release.f (wrap64 (x0 * x7)) (wrap64 (x1 * x7)) x8).bind fun t122 => ((window_Release.f x0 x1 x8).bind fun t123 => (if t122 = t123 then ((window_Deadline.f (wrap64 (x0 * x7)) (wrap64 (x1 * x7)) x8).bind fun t124 => ((window_Deadline.f x0 x1 x8).bind fun t125 => (if t124 = t125 then ((window_Bit.f (wrap64 (x0 * x7)) (wrap64 (x1 * x7)) x8).bind fun t126 => ((window_Bit.f x0 x1 x8).bind fun t127 => (if t126 = t127 then ((window_Group.f k (wrap64 (x0 * x7)) (wrap64 (x1 * x7)) x8).bind fun t128 => ((window_Group.f k x0 x1 x8).bind fun t129 => (if t128 = t129 then (evenhandedlaw3_WindowScales.l0 k x0 x1 x7 (wrap64 (x8 + 1))) else (some false)))) else (some false)))) else (some false)))) else (some false)))) else ((window_Heavy.f (wrap64 (x0 * x7)) (wrap64 (x1 * x7))).bind fun t120 => ((window_Heavy.f x0 x1).bind fun t121 => (some (t120 == t121))))
end
def evenhandedlaw3_WindowScales.f (k : Nat) (a0 : Int) (a1 : Int) (a2 : Int) : Option (Bool) := (evenhandedlaw3_awake.f k).bind fun t118 => (if t118 = true then ((evenhandedref1_TaskMay.f a0 a1).bind fun t119 => (if t119 = true then (if (wrap64 (a1 * (wrap64 (1 + (Int.tmod (wrap64 (a2)) 9))))) > 1048575 then (evenhandedlaw3_WindowScales.j0 k a0 a1 (wrap64 (1 + (Int.tmod (wrap64 (a2)) 9))) true) else (evenhandedlaw3_WindowScales.j0 k a0 a1 (wrap64 (1 + (Int.tmod (wrap64 (a2)) 9))) (decide (a0 > 2000)))) else (evenhandedlaw3_WindowScales.j0 k a0 a1 (wrap64 (1 + (Int.tmod (wrap64 (a2)) 9))) true))) else (some false))
theorem evenhandedlaw3_WindowScales.mono_l : ∀ k, (∀ y0 y1 y2 y3, LeO (evenhandedlaw3_WindowScales.j0 k y0 y1 y2 y3) (evenhandedlaw3_WindowScales.j0 (k + 1) y0 y1 y2 y3)) ∧ (∀ y0 y1 y2 y3, LeO (evenhandedlaw3_WindowScales.l0 k y0 y1 y2 y3) (evenhandedlaw3_WindowScales.l0 (k + 1) y0 y1 y2 y3))
  | 0 => ⟨fun _ _ _ _ r h => by simp [evenhandedlaw3_WindowScales.j0] at h, fun _ _ _ _ r h => by simp [evenhandedlaw3_WindowScales.l0] at h⟩
  | k + 1 => by
    obtain ⟨ih0, ih1⟩ := evenhandedlaw3_WindowScales.mono_l k
    refine ⟨?_, ?_⟩
    · intro y0 y1 y2 y3
      unfold evenhandedlaw3_WindowScales.j0
      repeat' first
      | (with_reducible exact ih0 _ _ _ _)
      | (with_reducible exact ih1 _ _ _ _)
      | (with_reducible exact evenhandedlaw3_awake.mono _)
      | (with_reducible exact window_Group.mono _ _ _ _)
      | (with_reducible exact LeO.refl _)
      | (with_reducible exact LeO.none _)
      | (with_reducible refine LeO.ite ?_ ?_)
      | (with_reducible refine LeO.bind ?_ (fun _ => ?_))
      | exact ih0 _ _ _ _
      | exact ih1 _ _ _ _
      | exact evenhandedlaw3_awake.mono _
      | exact window_Group.mono _ _ _ _
      | exact LeO.none _
      | refine LeO.ite ?_ ?_
      | refine LeO.bind ?_ (fun _ => ?_)
    · intro y0 y1 y2 y3
      unfold evenhandedlaw3_WindowScales.l0
      repeat' first
      | (with_reducible exact ih0 _ _ _ _)
      | (with_reducible exact ih1 _ _ _ _)
      | (with_reducible exact evenhandedlaw3_awake.mono _)
      | (with_reducible exact window_Group.mono _ _ _ _)
      | (with_reducible exact LeO.refl _)
      | (with_reducible exact LeO.none _)
      | (with_reducible refine LeO.ite ?_ ?_)
      | (with_reducible refine LeO.bind ?_ (fun _ => ?_))
      | exact ih0 _ _ _ _
      | exact ih1 _ _ _ _
      | exact evenhandedlaw3_awake.mono _
      | exact window_Group.mono _ _ _ _
      | exact LeO.none _
      | refine LeO.ite ?_ ?_
      | refine LeO.bind ?_ (fun _ => ?_)
theorem evenhandedlaw3_WindowScales.mono : ∀ a0 a1 a2 k, LeO (evenhandedlaw3_WindowScales.f k a0 a1 a2) (evenhandedlaw3_WindowScales.f (k + 1) a0 a1 a2) := by
  intro a0 a1 a2 k
  obtain ⟨ih0, ih1⟩ := evenhandedlaw3_WindowScales.mono_l k
  unfold evenhandedlaw3_WindowScales.f
  repeat' first
      | (with_reducible exact ih0 _ _ _ _)
      | (with_reducible exact ih1 _ _ _ _)
      | (with_reducible exact evenhandedlaw3_awake.mono _)
      | (with_reducible exact window_Group.mono _ _ _ _)
      | (with_reducible exact LeO.refl _)
      | (with_reducible exact LeO.none _)
      | (with_reducible refine LeO.ite ?_ ?_)
      | (with_reducible refine LeO.bind ?_ (fun _ => ?_))
      | exact ih0 _ _ _ _
      | exact ih1 _ _ _ _
      | exact evenhandedlaw3_awake.mono _
      | exact window_Group.mono _ _ _ _
      | exact LeO.none _
      | refine LeO.ite ?_ ?_
      | refine LeO.bind ?_ (fun _ => ?_)
set_option maxHeartbeats 8000000 in
set_option maxRecDepth 100000 in
theorem evenhandedlaw3_WindowScales.calls (k : Nat) (a0 : Int) (a1 : Int) (a2 : Int) (r : Bool) (w : World) (h : evenhandedlaw3_WindowScales.f k a0 a1 a2 = some r) :
    Calls Try.prog 8 #[.int .i64 a0, .int .i64 a1, .int .u8 a2] w fun e w' => e = .returned (.bool r) ∧ Drawn0 w w' := by
  have H : ((evenhandedlaw3_awake.f k).bind fun t118 => (if t118 = true then ((evenhandedref1_TaskMay.f a0 a1).bind fun t119 => (if t119 = true then (if (wrap64 (a1 * (wrap64 (1 + (Int.tmod (wrap64 (a2)) 9))))) > 1048575 then (evenhandedlaw3_WindowScales.j0 k a0 a1 (wrap64 (1 + (Int.tmod (wrap64 (a2)) 9))) true) else (evenhandedlaw3_WindowScales.j0 k a0 a1 (wrap64 (1 + (Int.tmod (wrap64 (a2)) 9))) (decide (a0 > 2000)))) else (evenhandedlaw3_WindowScales.j0 k a0 a1 (wrap64 (1 + (Int.tmod (wrap64 (a2)) 9))) true))) else (some false))) = some r := h
  clear h
  replace H := Option.bind_eq_some_iff.mp H
  obtain ⟨t118, A40, H⟩ := H
  replace H : (if t118 = true then ((evenhandedref1_TaskMay.f a0 a1).bind fun t119 => (if t119 = true then (if (wrap64 (a1 * (wrap64 (1 + (Int.tmod (wrap64 (a2)) 9))))) > 1048575 then (evenhandedlaw3_WindowScales.j0 k a0 a1 (wrap64 (1 + (Int.tmod (wrap64 (a2)) 9))) true) else (evenhandedlaw3_WindowScales.j0 k a0 a1 (wrap64 (1 + (Int.tmod (wrap64 (a2)) 9))) (decide (a0 > 2000)))) else (evenhandedlaw3_WindowScales.j0 k a0 a1 (wrap64 (1 + (Int.tmod (wrap64 (a2)) 9))) true))) else (some false)) = some r := H
  have A4 := Aside0.mk A40
  clear A40
  by_cases c5 : t118 = true
  · subst c5
    have H1 : ((evenhandedref1_TaskMay.f a0 a1).bind fun t119 => (if t119 = true then (if (wrap64 (a1 * (wrap64 (1 + (Int.tmod (wrap64 (a2)) 9))))) > 1048575 then (evenhandedlaw3_WindowScales.j0 k a0 a1 (wrap64 (1 + (Int.tmod (wrap64 (a2)) 9))) true) else (evenhandedlaw3_WindowScales.j0 k a0 a1 (wrap64 (1 + (Int.tmod (wrap64 (a2)) 9))) (decide (a0 > 2000)))) else (evenhandedlaw3_WindowScales.j0 k a0 a1 (wrap64 (1 + (Int.tmod (wrap64 (a2)) 9))) true))) = some r := by rw [if_pos rfl] at H; exact H
    clear H
    have H := H1
    clear H1
    have HC6 := Aside0.mk H
    clear H
    go_enter Try.func8, Try.ntmps8
    go_upto_region 4 with (first | ((with_reducible refine gate_callee (f := 11) rfl ?_); refine goesL_ (some 9) rfl rfl Try.func11 (by kernel_rfl) rfl #[] rfl (by (try simp only [List.map_toArray, List.map_cons, List.map_nil]); first | done | rfl | (simp only [List.length_drop, List.length_take]; rfl)) ?_; (with_reducible refine (evenhandedlaw3_awake.calls k  true _ A4.out).mono ?_); rintro e w' ⟨rfl, ⟨nd, rfl⟩⟩; refine ⟨_, rfl, ?_⟩))
    (try simp only [Act.put, List.setIfInBounds_toArray, List.set_cons_zero, List.set_cons_succ])
    go_cut [28] (fun v28 wc => ∃ (kq : Nat) (x28_5 : Bool), v28 = .bool x28_5 ∧ Aside0 (evenhandedlaw3_WindowScales.j0 kq a0 a1 (wrap64 (1 + (Int.tmod (wrap64 (a2)) 9))) x28_5 = some r) ∧ Aside0 (kq ≤ k) ∧ Drawn0 w wc)
    case first =>
      have H := HC6.out
      clear HC6
      replace H := Option.bind_eq_some_iff.mp H
      obtain ⟨t119, A70, H⟩ := H
      replace H : (if t119 = true then (if (wrap64 (a1 * (wrap64 (1 + (Int.tmod (wrap64 (a2)) 9))))) > 1048575 then (evenhandedlaw3_WindowScales.j0 k a0 a1 (wrap64 (1 + (Int.tmod (wrap64 (a2)) 9))) true) else (evenhandedlaw3_WindowScales.j0 k a0 a1 (wrap64 (1 + (Int.tmod (wrap64 (a2)) 9))) (decide (a0 > 2000)))) else (evenhandedlaw3_WindowScales.j0 k a0 a1 (wrap64 (1 + (Int.tmod (wrap64 (a2)) 9))) true)) = some r := H
      have A7 := Aside0.mk A70
      clear A70
      by_cases c8 : t119 = true
      · subst c8
        have H1 : (if (wrap64 (a1 * (wrap64 (1 + (Int.tmod (wrap64 (a2)) 9))))) > 1048575 then (evenhandedlaw3_WindowScales.j0 k a0 a1 (wrap64 (1 + (Int.tmod (wrap64 (a2)) 9))) true) else (evenhandedlaw3_WindowScales.j0 k a0 a1 (wrap64 (1 + (Int.tmod (wrap64 (a2)) 9))) (decide (a0 > 2000)))) = some r := by rw [if_pos rfl] at H; exact H
        clear H
        have H := H1
        clear H1
        by_cases c9 : (wrap64 (a1 * (wrap64 (1 + (Int.tmod (wrap64 (a2)) 9))))) > 1048575
        · rw [if_pos c9] at H
          have c9b0 : decide (1048575 < (wrap64 (a1 * (wrap64 (1 + (Int.tmod (wrap64 (a2)) 9)))))) = true := decide_eq_true c9
          clear c9
          (first | rw [c9b0] | (simp only [i64_w, i32_w]; rw [c9b0]) | skip)
          have H' := Aside0.mk H
          clear H
          go_wp2_with (first | ((with_reducible refine gate_callee (f := 13) rfl ?_); refine goesL_ (some 17) rfl rfl Try.func13 (by kernel_rfl) rfl #[.int .i64 a0, .int .i64 a1] rfl (by (try simp only [List.map_toArray, List.map_cons, List.map_nil]); first | done | rfl | (simp only [List.length_drop, List.length_take]; rfl)) ?_; (with_reducible refine (evenhandedref1_TaskMay.calls a0 a1 true _ A7.out).mono ?_); rintro e w' ⟨rfl, ⟨nd, rfl⟩⟩; refine ⟨_, rfl, ?_⟩))
          go_meet
          case rel => exact ⟨_, (true), (by first | rfl | (simp; done) | (simp [*]; done)), H', ⟨by first | omega | exact Nat.le_refl _⟩, by repeat (first | exact Drawn0.refl _ | apply Drawn0.step)⟩
        · rw [if_neg c9] at H
          have c9b0 : decide (1048575 < (wrap64 (a1 * (wrap64 (1 + (Int.tmod (wrap64 (a2)) 9)))))) = false := decide_eq_false c9
          clear c9
          (first | rw [c9b0] | (simp only [i64_w, i32_w]; rw [c9b0]) | skip)
          have H' := Aside0.mk H
          clear H
          go_wp2_with (first | ((with_reducible refine gate_callee (f := 13) rfl ?_); refine goesL_ (some 17) rfl rfl Try.func13 (by kernel_rfl) rfl #[.int .i64 a0, .int .i64 a1] rfl (by (try simp only [List.map_toArray, List.map_cons, List.map_nil]); first | done | rfl | (simp only [List.length_drop, List.length_take]; rfl)) ?_; (with_reducible refine (evenhandedref1_TaskMay.calls a0 a1 true _ A7.out).mono ?_); rintro e w' ⟨rfl, ⟨nd, rfl⟩⟩; refine ⟨_, rfl, ?_⟩))
          go_meet
          case rel => exact ⟨_, (decide (a0 > 2000)), (by first | rfl | (simp; done) | (simp [*]; done)), H', ⟨by first | omega | exact Nat.le_refl _⟩, by repeat (first | exact Drawn0.refl _ | apply Drawn0.step)⟩
      · replace c8 := Bool.eq_false_iff.mpr c8
        subst c8
        have H1 : (evenhandedlaw3_WindowScales.j0 k a0 a1 (wrap64 (1 + (Int.tmod (wrap64 (a2)) 9))) true) = some r := by rw [if_neg (show ¬ (false = true) by decide)] at H; exact H
        clear H
        have H := H1
        clear H1
        have H' := Aside0.mk H
        clear H
        go_wp2_with (first | ((with_reducible refine gate_callee (f := 13) rfl ?_); refine goesL_ (some 17) rfl rfl Try.func13 (by kernel_rfl) rfl #[.int .i64 a0, .int .i64 a1] rfl (by (try simp only [List.map_toArray, List.map_cons, List.map_nil]); first | done | rfl | (simp only [List.length_drop, List.length_take]; rfl)) ?_; (with_reducible refine (evenhandedref1_TaskMay.calls a0 a1 false _ A7.out).mono ?_); rintro e w' ⟨rfl, ⟨nd, rfl⟩⟩; refine ⟨_, rfl, ?_⟩))
        go_meet
        case rel => exact ⟨_, (true), (by first | rfl | (simp; done) | (simp [*]; done)), H', ⟨by first | omega | exact Nat.le_refl _⟩, by repeat (first | exact Drawn0.refl _ | apply Drawn0.step)⟩
    case rest =>
      clear HC6
      try clear c1
      try clear p2
      try clear c5
      try clear p6
      try clear c8
      try clear c9
      try clear c9b0
      obtain ⟨kq, x28_5, rfl, HA, HJ5, ⟨mc5, rfl⟩⟩ := hcut
      cases kq with
      | zero => exact absurd HA.out (by simp [evenhandedlaw3_WindowScales.j0])
      | succ kj5 =>
        have H := HA.out
        clear HA
        simp only [evenhandedlaw3_WindowScales.j0] at H
        by_cases c10 : x28_5 = true
        · subst c10
          have H1 : (some true) = some r := by rw [if_pos rfl] at H; exact H
          clear H
          have H := H1
          clear H1
          obtain rfl := Option.some.inj H
          go_wp2
          go_ret
          exact ⟨by first | rfl | (simp; done) | (simp [*]; done), by repeat (first | exact Drawn0.refl _ | apply Drawn0.step)⟩
        · replace c10 := Bool.eq_false_iff.mpr c10
          subst c10
          have H1 : (evenhandedlaw3_WindowScales.l0 kj5 a0 a1 (wrap64 (1 + (Int.tmod (wrap64 (a2)) 9))) 1) = some r := by rw [if_neg (show ¬ (false = true) by decide)] at H; exact H
          clear H
          have H := H1
          clear H1
          have H' := Aside0.mk H
          clear H
          go_wp2
          go_loopg [8] kj5 (fun kq v8 w' => ∃ (x8_2 : Int), v8 = .int .i64 x8_2 ∧ Aside0 (evenhandedlaw3_WindowScales.l0 kq a0 a1 (wrap64 (1 + (Int.tmod (wrap64 (a2)) 9))) x8_2 = some r) ∧ Aside0 (kq ≤ kj5) ∧ Drawn0 w w')
          case atStart => exact ⟨(1), (by first | rfl | (simp; done) | (simp [*]; done)), H', ⟨Nat.le_refl _⟩, by repeat (first | exact Drawn0.refl _ | apply Drawn0.step)⟩
          case round =>
            clear H'
            try clear c1
            try clear p2
            try clear c5
            try clear p6
            try clear c8
            try clear c9
            try clear c9b0
            try clear c10
            try clear p2
            try clear p6
            obtain ⟨x8_2, rfl, HA, HK2, ⟨m2, rfl⟩⟩ := hrel
            cases gk with
            | zero => exact absurd HA.out (by simp [evenhandedlaw3_WindowScales.l0])
            | succ k2 =>
              have H := HA.out
              clear HA
              simp only [evenhandedlaw3_WindowScales.l0] at H
              by_cases c11 : x8_2 ≤ a0
              · rw [if_pos c11] at H
                have c11b0 : decide (x8_2 ≤ a0) = true := decide_eq_true c11
                clear c11
                replace H := Option.bind_eq_some_iff.mp H
                obtain ⟨t122, A120, H⟩ := H
                replace H : ((window_Release.f a0 a1 x8_2).bind fun t123 => (if t122 = t123 then ((window_Deadline.f (wrap64 (a0 * (wrap64 (1 + (Int.tmod (wrap64 (a2)) 9))))) (wrap64 (a1 * (wrap64 (1 + (Int.tmod (wrap64 (a2)) 9))))) x8_2).bind fun t124 => ((window_Deadline.f a0 a1 x8_2).bind fun t125 => (if t124 = t125 then ((window_Bit.f (wrap64 (a0 * (wrap64 (1 + (Int.tmod (wrap64 (a2)) 9))))) (wrap64 (a1 * (wrap64 (1 + (Int.tmod (wrap64 (a2)) 9))))) x8_2).bind fun t126 => ((window_Bit.f a0 a1 x8_2).bind fun t127 => (if t126 = t127 then ((window_Group.f k2 (wrap64 (a0 * (wrap64 (1 + (Int.tmod (wrap64 (a2)) 9))))) (wrap64 (a1 * (wrap64 (1 + (Int.tmod (wrap64 (a2)) 9))))) x8_2).bind fun t128 => ((window_Group.f k2 a0 a1 x8_2).bind fun t129 => (if t128 = t129 then (evenhandedlaw3_WindowScales.l0 k2 a0 a1 (wrap64 (1 + (Int.tmod (wrap64 (a2)) 9))) (wrap64 (x8_2 + 1))) else (some false)))) else (some false)))) else (some false)))) else (some false))) = some r := H
                have A12 := Aside0.mk A120
                clear A120
                replace H := Option.bind_eq_some_iff.mp H
                obtain ⟨t123, A130, H⟩ := H
                replace H : (if t122 = t123 then ((window_Deadline.f (wrap64 (a0 * (wrap64 (1 + (Int.tmod (wrap64 (a2)) 9))))) (wrap64 (a1 * (wrap64 (1 + (Int.tmod (wrap64 (a2)) 9))))) x8_2).bind fun t124 => ((window_Deadline.f a0 a1 x8_2).bind fun t125 => (if t124 = t125 then ((window_Bit.f (wrap64 (a0 * (wrap64 (1 + (Int.tmod (wrap64 (a2)) 9))))) (wrap64 (a1 * (wrap64 (1 + (Int.tmod (wrap64 (a2)) 9))))) x8_2).bind fun t126 => ((window_Bit.f a0 a1 x8_2).bind fun t127 => (if t126 = t127 then ((window_Group.f k2 (wrap64 (a0 * (wrap64 (1 + (Int.tmod (wrap64 (a2)) 9))))) (wrap64 (a1 * (wrap64 (1 + (Int.tmod (wrap64 (a2)) 9))))) x8_2).bind fun t128 => ((window_Group.f k2 a0 a1 x8_2).bind fun t129 => (if t128 = t129 then (evenhandedlaw3_WindowScales.l0 k2 a0 a1 (wrap64 (1 + (Int.tmod (wrap64 (a2)) 9))) (wrap64 (x8_2 + 1))) else (some false)))) else (some false)))) else (some false)))) else (some false)) = some r := H
                have A13 := Aside0.mk A130
                clear A130
                by_cases c14 : t122 = t123
                · rw [if_pos c14] at H
                  have c14b0 : (t122 == t123) = true := beq_iff_eq.mpr c14
                  have c14b1 : (t122 != t123) = false := bne_eq_false_iff_eq.mpr c14
                  clear c14
                  replace H := Option.bind_eq_some_iff.mp H
                  obtain ⟨t124, A150, H⟩ := H
                  replace H : ((window_Deadline.f a0 a1 x8_2).bind fun t125 => (if t124 = t125 then ((window_Bit.f (wrap64 (a0 * (wrap64 (1 + (Int.tmod (wrap64 (a2)) 9))))) (wrap64 (a1 * (wrap64 (1 + (Int.tmod (wrap64 (a2)) 9))))) x8_2).bind fun t126 => ((window_Bit.f a0 a1 x8_2).bind fun t127 => (if t126 = t127 then ((window_Group.f k2 (wrap64 (a0 * (wrap64 (1 + (Int.tmod (wrap64 (a2)) 9))))) (wrap64 (a1 * (wrap64 (1 + (Int.tmod (wrap64 (a2)) 9))))) x8_2).bind fun t128 => ((window_Group.f k2 a0 a1 x8_2).bind fun t129 => (if t128 = t129 then (evenhandedlaw3_WindowScales.l0 k2 a0 a1 (wrap64 (1 + (Int.tmod (wrap64 (a2)) 9))) (wrap64 (x8_2 + 1))) else (some false)))) else (some false)))) else (some false))) = some r := H
                  have A15 := Aside0.mk A150
                  clear A150
                  replace H := Option.bind_eq_some_iff.mp H
                  obtain ⟨t125, A160, H⟩ := H
                  replace H : (if t124 = t125 then ((window_Bit.f (wrap64 (a0 * (wrap64 (1 + (Int.tmod (wrap64 (a2)) 9))))) (wrap64 (a1 * (wrap64 (1 + (Int.tmod (wrap64 (a2)) 9))))) x8_2).bind fun t126 => ((window_Bit.f a0 a1 x8_2).bind fun t127 => (if t126 = t127 then ((window_Group.f k2 (wrap64 (a0 * (wrap64 (1 + (Int.tmod (wrap64 (a2)) 9))))) (wrap64 (a1 * (wrap64 (1 + (Int.tmod (wrap64 (a2)) 9))))) x8_2).bind fun t128 => ((window_Group.f k2 a0 a1 x8_2).bind fun t129 => (if t128 = t129 then (evenhandedlaw3_WindowScales.l0 k2 a0 a1 (wrap64 (1 + (Int.tmod (wrap64 (a2)) 9))) (wrap64 (x8_2 + 1))) else (some false)))) else (some false)))) else (some false)) = some r := H
                  have A16 := Aside0.mk A160
                  clear A160
                  by_cases c17 : t124 = t125
                  · rw [if_pos c17] at H
                    have c17b0 : (t124 == t125) = true := beq_iff_eq.mpr c17
                    have c17b1 : (t124 != t125) = false := bne_eq_false_iff_eq.mpr c17
                    clear c17
                    replace H := Option.bind_eq_some_iff.mp H
                    obtain ⟨t126, A180, H⟩ := H
                    replace H : ((window_Bit.f a0 a1 x8_2).bind fun t127 => (if t126 = t127 then ((window_Group.f k2 (wrap64 (a0 * (wrap64 (1 + (Int.tmod (wrap64 (a2)) 9))))) (wrap64 (a1 * (wrap64 (1 + (Int.tmod (wrap64 (a2)) 9))))) x8_2).bind fun t128 => ((window_Group.f k2 a0 a1 x8_2).bind fun t129 => (if t128 = t129 then (evenhandedlaw3_WindowScales.l0 k2 a0 a1 (wrap64 (1 + (Int.tmod (wrap64 (a2)) 9))) (wrap64 (x8_2 + 1))) else (some false)))) else (some false))) = some r := H
                    have A18 := Aside0.mk A180
                    clear A180
                    replace H := Option.bind_eq_some_iff.mp H
                    obtain ⟨t127, A190, H⟩ := H
                    replace H : (if t126 = t127 then ((window_Group.f k2 (wrap64 (a0 * (wrap64 (1 + (Int.tmod (wrap64 (a2)) 9))))) (wrap64 (a1 * (wrap64 (1 + (Int.tmod (wrap64 (a2)) 9))))) x8_2).bind fun t128 => ((window_Group.f k2 a0 a1 x8_2).bind fun t129 => (if t128 = t129 then (evenhandedlaw3_WindowScales.l0 k2 a0 a1 (wrap64 (1 + (Int.tmod (wrap64 (a2)) 9))) (wrap64 (x8_2 + 1))) else (some false)))) else (some false)) = some r := H
                    have A19 := Aside0.mk A190
                    clear A190
                    by_cases c20 : t126 = t127
                    · rw [if_pos c20] at H
                      have c20b0 : (t126 == t127) = true := beq_iff_eq.mpr c20
                      have c20b1 : (t126 != t127) = false := bne_eq_false_iff_eq.mpr c20
                      clear c20
                      replace H := Option.bind_eq_some_iff.mp H
                      obtain ⟨t128, A210, H⟩ := H
                      replace H : ((window_Group.f k2 a0 a1 x8_2).bind fun t129 => (if t128 = t129 then (evenhandedlaw3_WindowScales.l0 k2 a0 a1 (wrap64 (1 + (Int.tmod (wrap64 (a2)) 9))) (wrap64 (x8_2 + 1))) else (some false))) = some r := H
                      have A21 := Aside0.mk A210
                      clear A210
                      replace H := Option.bind_eq_some_iff.mp H
                      obtain ⟨t129, A220, H⟩ := H
                      replace H : (if t128 = t129 then (evenhandedlaw3_WindowScales.l0 k2 a0 a1 (wrap64 (1 + (Int.tmod (wrap64 (a2)) 9))) (wrap64 (x8_2 + 1))) else (some false)) = some r := H
                      have A22 := Aside0.mk A220
                      clear A220
                      by_cases c23 : t128 = t129
                      · rw [if_pos c23] at H
                        have c23b0 : (t128 == t129) = true := beq_iff_eq.mpr c23
                        have c23b1 : (t128 != t129) = false := bne_eq_false_iff_eq.mpr c23
                        clear c23
                        have H' := Aside0.mk H
                        clear H
                        go_wp2_with (first | ((with_reducible refine gate_callee (f := 15) rfl ?_); refine goesL_ (some 41) rfl rfl Try.func15 (by kernel_rfl) rfl #[.int .i64 (wrap64 (a0 * (wrap64 (1 + (Int.tmod (wrap64 (a2)) 9))))), .int .i64 (wrap64 (a1 * (wrap64 (1 + (Int.tmod (wrap64 (a2)) 9))))), .int .i64 x8_2] rfl (by (try simp only [List.map_toArray, List.map_cons, List.map_nil]); first | done | rfl | (simp only [List.length_drop, List.length_take]; rfl)) ?_; (with_reducible refine (window_Release.calls (wrap64 (a0 * (wrap64 (1 + (Int.tmod (wrap64 (a2)) 9))))) (wrap64 (a1 * (wrap64 (1 + (Int.tmod (wrap64 (a2)) 9))))) x8_2 t122 _ A12.out).mono ?_); rintro e w' ⟨rfl, ⟨nd, rfl⟩⟩; refine ⟨_, rfl, ?_⟩) | ((with_reducible refine gate_callee (f := 15) rfl ?_); refine goesL_ (some 45) rfl rfl Try.func15 (by kernel_rfl) rfl #[.int .i64 a0, .int .i64 a1, .int .i64 x8_2] rfl (by (try simp only [List.map_toArray, List.map_cons, List.map_nil]); first | done | rfl | (simp only [List.length_drop, List.length_take]; rfl)) ?_; (with_reducible refine (window_Release.calls a0 a1 x8_2 t123 _ A13.out).mono ?_); rintro e w' ⟨rfl, ⟨nd, rfl⟩⟩; refine ⟨_, rfl, ?_⟩) | (go_at_call 16; (with_reducible refine (window_Deadline.calls (wrap64 (a0 * (wrap64 (1 + (Int.tmod (wrap64 (a2)) 9))))) (wrap64 (a1 * (wrap64 (1 + (Int.tmod (wrap64 (a2)) 9))))) x8_2 t124 _ A15.out).mono ?_); rintro e w' ⟨rfl, ⟨nd, rfl⟩⟩) | (go_at_call 16; (with_reducible refine (window_Deadline.calls a0 a1 x8_2 t125 _ A16.out).mono ?_); rintro e w' ⟨rfl, ⟨nd, rfl⟩⟩) | (go_at_call 17; (with_reducible refine (window_Bit.calls (wrap64 (a0 * (wrap64 (1 + (Int.tmod (wrap64 (a2)) 9))))) (wrap64 (a1 * (wrap64 (1 + (Int.tmod (wrap64 (a2)) 9))))) x8_2 t126 _ A18.out).mono ?_); rintro e w' ⟨rfl, ⟨nd, rfl⟩⟩) | (go_at_call 17; (with_reducible refine (window_Bit.calls a0 a1 x8_2 t127 _ A19.out).mono ?_); rintro e w' ⟨rfl, ⟨nd, rfl⟩⟩) | (go_at_call 18; (with_reducible refine (window_Group.calls k2 (wrap64 (a0 * (wrap64 (1 + (Int.tmod (wrap64 (a2)) 9))))) (wrap64 (a1 * (wrap64 (1 + (Int.tmod (wrap64 (a2)) 9))))) x8_2 t128 _ A21.out).mono ?_); rintro e w' ⟨rfl, ⟨nd, rfl⟩⟩) | (go_at_call 18; (with_reducible refine (window_Group.calls k2 a0 a1 x8_2 t129 _ A22.out).mono ?_); rintro e w' ⟨rfl, ⟨nd, rfl⟩⟩))
                        go_roundg k2
                        case measure => have := HJ5.out; have := HK2.out; omega
                        case rel => exact ⟨(wrap64 (x8_2 + 1)), (by first | rfl | (simp; done) | (simp [*]; done)), H', ⟨by have := HJ5.out; have := HK2.out; omega⟩, by repeat (first | exact Drawn0.refl _ | apply Drawn0.step)⟩
                      · rw [if_neg c23] at H
                        have c23b0 : (t128 == t129) = false := beq_eq_false_iff_ne.mpr c23
                        have c23b1 : (t128 != t129) = true := bne_iff_ne.mpr c23
                        obtain rfl := Option.some.inj H
                        go_wp2_with (first | ((with_reducible refine gate_callee (f := 15) rfl ?_); refine goesL_ (some 41) rfl rfl Try.func15 (by kernel_rfl) rfl #[.int .i64 (wrap64 (a0 * (wrap64 (1 + (Int.tmod (wrap64 (a2)) 9))))), .int .i64 (wrap64 (a1 * (wrap64 (1 + (Int.tmod (wrap64 (a2)) 9))))), .int .i64 x8_2] rfl (by (try simp only [List.map_toArray, List.map_cons, List.map_nil]); first | done | rfl | (simp only [List.length_drop, List.length_take]; rfl)) ?_; (with_reducible refine (window_Release.calls (wrap64 (a0 * (wrap64 (1 + (Int.tmod (wrap64 (a2)) 9))))) (wrap64 (a1 * (wrap64 (1 + (Int.tmod (wrap64 (a2)) 9))))) x8_2 t122 _ A12.out).mono ?_); rintro e w' ⟨rfl, ⟨nd, rfl⟩⟩; refine ⟨_, rfl, ?_⟩) | ((with_reducible refine gate_callee (f := 15) rfl ?_); refine goesL_ (some 45) rfl rfl Try.func15 (by kernel_rfl) rfl #[.int .i64 a0, .int .i64 a1, .int .i64 x8_2] rfl (by (try simp only [List.map_toArray, List.map_cons, List.map_nil]); first | done | rfl | (simp only [List.length_drop, List.length_take]; rfl)) ?_; (with_reducible refine (window_Release.calls a0 a1 x8_2 t123 _ A13.out).mono ?_); rintro e w' ⟨rfl, ⟨nd, rfl⟩⟩; refine ⟨_, rfl, ?_⟩) | (go_at_call 16; (with_reducible refine (window_Deadline.calls (wrap64 (a0 * (wrap64 (1 + (Int.tmod (wrap64 (a2)) 9))))) (wrap64 (a1 * (wrap64 (1 + (Int.tmod (wrap64 (a2)) 9))))) x8_2 t124 _ A15.out).mono ?_); rintro e w' ⟨rfl, ⟨nd, rfl⟩⟩) | (go_at_call 16; (with_reducible refine (window_Deadline.calls a0 a1 x8_2 t125 _ A16.out).mono ?_); rintro e w' ⟨rfl, ⟨nd, rfl⟩⟩) | (go_at_call 17; (with_reducible refine (window_Bit.calls (wrap64 (a0 * (wrap64 (1 + (Int.tmod (wrap64 (a2)) 9))))) (wrap64 (a1 * (wrap64 (1 + (Int.tmod (wrap64 (a2)) 9))))) x8_2 t126 _ A18.out).mono ?_); rintro e w' ⟨rfl, ⟨nd, rfl⟩⟩) | (go_at_call 17; (with_reducible refine (window_Bit.calls a0 a1 x8_2 t127 _ A19.out).mono ?_); rintro e w' ⟨rfl, ⟨nd, rfl⟩⟩) | (go_at_call 18; (with_reducible refine (window_Group.calls k2 (wrap64 (a0 * (wrap64 (1 + (Int.tmod (wrap64 (a2)) 9))))) (wrap64 (a1 * (wrap64 (1 + (Int.tmod (wrap64 (a2)) 9))))) x8_2 t128 _ A21.out).mono ?_); rintro e w' ⟨rfl, ⟨nd, rfl⟩⟩) | (go_at_call 18; (with_reducible refine (window_Group.calls k2 a0 a1 x8_2 t129 _ A22.out).mono ?_); rintro e w' ⟨rfl, ⟨nd, rfl⟩⟩))
                        go_ret
                        exact ⟨by first | rfl | (simp; done) | (simp [*]; done), by repeat (first | exact Drawn0.refl _ | apply Drawn0.step)⟩
                    · rw [if_neg c20] at H
                      have c20b0 : (t126 == t127) = false := beq_eq_false_iff_ne.mpr c20
                      have c20b1 : (t126 != t127) = true := bne_iff_ne.mpr c20
                      obtain rfl := Option.some.inj H
                      go_wp2_with (first | ((with_reducible refine gate_callee (f := 15) rfl ?_); refine goesL_ (some 41) rfl rfl Try.func15 (by kernel_rfl) rfl #[.int .i64 (wrap64 (a0 * (wrap64 (1 + (Int.tmod (wrap64 (a2)) 9))))), .int .i64 (wrap64 (a1 * (wrap64 (1 + (Int.tmod (wrap64 (a2)) 9))))), .int .i64 x8_2] rfl (by (try simp only [List.map_toArray, List.map_cons, List.map_nil]); first | done | rfl | (simp only [List.length_drop, List.length_take]; rfl)) ?_; (with_reducible refine (window_Release.calls (wrap64 (a0 * (wrap64 (1 + (Int.tmod (wrap64 (a2)) 9))))) (wrap64 (a1 * (wrap64 (1 + (Int.tmod (wrap64 (a2)) 9))))) x8_2 t122 _ A12.out).mono ?_); rintro e w' ⟨rfl, ⟨nd, rfl⟩⟩; refine ⟨_, rfl, ?_⟩) | ((with_reducible refine gate_callee (f := 15) rfl ?_); refine goesL_ (some 45) rfl rfl Try.func15 (by kernel_rfl) rfl #[.int .i64 a0, .int .i64 a1, .int .i64 x8_2] rfl (by (try simp only [List.map_toArray, List.map_cons, List.map_nil]); first | done | rfl | (simp only [List.length_drop, List.length_take]; rfl)) ?_; (with_reducible refine (window_Release.calls a0 a1 x8_2 t123 _ A13.out).mono ?_); rintro e w' ⟨rfl, ⟨nd, rfl⟩⟩; refine ⟨_, rfl, ?_⟩) | (go_at_call 16; (with_reducible refine (window_Deadline.calls (wrap64 (a0 * (wrap64 (1 + (Int.tmod (wrap64 (a2)) 9))))) (wrap64 (a1 * (wrap64 (1 + (Int.tmod (wrap64 (a2)) 9))))) x8_2 t124 _ A15.out).mono ?_); rintro e w' ⟨rfl, ⟨nd, rfl⟩⟩) | (go_at_call 16; (with_reducible refine (window_Deadline.calls a0 a1 x8_2 t125 _ A16.out).mono ?_); rintro e w' ⟨rfl, ⟨nd, rfl⟩⟩) | (go_at_call 17; (with_reducible refine (window_Bit.calls (wrap64 (a0 * (wrap64 (1 + (Int.tmod (wrap64 (a2)) 9))))) (wrap64 (a1 * (wrap64 (1 + (Int.tmod (wrap64 (a2)) 9))))) x8_2 t126 _ A18.out).mono ?_); rintro e w' ⟨rfl, ⟨nd, rfl⟩⟩) | (go_at_call 17; (with_reducible refine (window_Bit.calls a0 a1 x8_2 t127 _ A19.out).mono ?_); rintro e w' ⟨rfl, ⟨nd, rfl⟩⟩))
                      go_ret
                      exact ⟨by first | rfl | (simp; done) | (simp [*]; done), by repeat (first | exact Drawn0.refl _ | apply Drawn0.step)⟩
                  · rw [if_neg c17] at H
                    have c17b0 : (t124 == t125) = false := beq_eq_false_iff_ne.mpr c17
                    have c17b1 : (t124 != t125) = true := bne_iff_ne.mpr c17
                    obtain rfl := Option.some.inj H
                    go_wp2_with (first | ((with_reducible refine gate_callee (f := 15) rfl ?_); refine goesL_ (some 41) rfl rfl Try.func15 (by kernel_rfl) rfl #[.int .i64 (wrap64 (a0 * (wrap64 (1 + (Int.tmod (wrap64 (a2)) 9))))), .int .i64 (wrap64 (a1 * (wrap64 (1 + (Int.tmod (wrap64 (a2)) 9))))), .int .i64 x8_2] rfl (by (try simp only [List.map_toArray, List.map_cons, List.map_nil]); first | done | rfl | (simp only [List.length_drop, List.length_take]; rfl)) ?_; (with_reducible refine (window_Release.calls (wrap64 (a0 * (wrap64 (1 + (Int.tmod (wrap64 (a2)) 9))))) (wrap64 (a1 * (wrap64 (1 + (Int.tmod (wrap64 (a2)) 9))))) x8_2 t122 _ A12.out).mono ?_); rintro e w' ⟨rfl, ⟨nd, rfl⟩⟩; refine ⟨_, rfl, ?_⟩) | ((with_reducible refine gate_callee (f := 15) rfl ?_); refine goesL_ (some 45) rfl rfl Try.func15 (by kernel_rfl) rfl #[.int .i64 a0, .int .i64 a1, .int .i64 x8_2] rfl (by (try simp only [List.map_toArray, List.map_cons, List.map_nil]); first | done | rfl | (simp only [List.length_drop, List.length_take]; rfl)) ?_; (with_reducible refine (window_Release.calls a0 a1 x8_2 t123 _ A13.out).mono ?_); rintro e w' ⟨rfl, ⟨nd, rfl⟩⟩; refine ⟨_, rfl, ?_⟩) | (go_at_call 16; (with_reducible refine (window_Deadline.calls (wrap64 (a0 * (wrap64 (1 + (Int.tmod (wrap64 (a2)) 9))))) (wrap64 (a1 * (wrap64 (1 + (Int.tmod (wrap64 (a2)) 9))))) x8_2 t124 _ A15.out).mono ?_); rintro e w' ⟨rfl, ⟨nd, rfl⟩⟩) | (go_at_call 16; (with_reducible refine (window_Deadline.calls a0 a1 x8_2 t125 _ A16.out).mono ?_); rintro e w' ⟨rfl, ⟨nd, rfl⟩⟩))
                    go_ret
                    exact ⟨by first | rfl | (simp; done) | (simp [*]; done), by repeat (first | exact Drawn0.refl _ | apply Drawn0.step)⟩
                · rw [if_neg c14] at H
                  have c14b0 : (t122 == t123) = false := beq_eq_false_iff_ne.mpr c14
                  have c14b1 : (t122 != t123) = true := bne_iff_ne.mpr c14
                  obtain rfl := Option.some.inj H
                  go_wp2_with (first | ((with_reducible refine gate_callee (f := 15) rfl ?_); refine goesL_ (some 41) rfl rfl Try.func15 (by kernel_rfl) rfl #[.int .i64 (wrap64 (a0 * (wrap64 (1 + (Int.tmod (wrap64 (a2)) 9))))), .int .i64 (wrap64 (a1 * (wrap64 (1 + (Int.tmod (wrap64 (a2)) 9))))), .int .i64 x8_2] rfl (by (try simp only [List.map_toArray, List.map_cons, List.map_nil]); first | done | rfl | (simp only [List.length_drop, List.length_take]; rfl)) ?_; (with_reducible refine (window_Release.calls (wrap64 (a0 * (wrap64 (1 + (Int.tmod (wrap64 (a2)) 9))))) (wrap64 (a1 * (wrap64 (1 + (Int.tmod (wrap64 (a2)) 9))))) x8_2 t122 _ A12.out).mono ?_); rintro e w' ⟨rfl, ⟨nd, rfl⟩⟩; refine ⟨_, rfl, ?_⟩) | ((with_reducible refine gate_callee (f := 15) rfl ?_); refine goesL_ (some 45) rfl rfl Try.func15 (by kernel_rfl) rfl #[.int .i64 a0, .int .i64 a1, .int .i64 x8_2] rfl (by (try simp only [List.map_toArray, List.map_cons, List.map_nil]); first | done | rfl | (simp only [List.length_drop, List.length_take]; rfl)) ?_; (with_reducible refine (window_Release.calls a0 a1 x8_2 t123 _ A13.out).mono ?_); rintro e w' ⟨rfl, ⟨nd, rfl⟩⟩; refine ⟨_, rfl, ?_⟩))
                  go_ret
                  exact ⟨by first | rfl | (simp; done) | (simp [*]; done), by repeat (first | exact Drawn0.refl _ | apply Drawn0.step)⟩
              · rw [if_neg c11] at H
                have c11b0 : decide (x8_2 ≤ a0) = false := decide_eq_false c11
                clear c11
                replace H := Option.bind_eq_some_iff.mp H
                obtain ⟨t120, A240, H⟩ := H
                replace H : ((window_Heavy.f a0 a1).bind fun t121 => (some (t120 == t121))) = some r := H
                have A24 := Aside0.mk A240
                clear A240
                replace H := Option.bind_eq_some_iff.mp H
                obtain ⟨t121, A250, H⟩ := H
                replace H : (some (t120 == t121)) = some r := H
                have A25 := Aside0.mk A250
                clear A250
                obtain rfl := Option.some.inj H
                go_wp2_with (first | ((with_reducible refine gate_callee (f := 19) rfl ?_); refine goesL_ (some 98) rfl rfl Try.func19 (by kernel_rfl) rfl #[.int .i64 (wrap64 (a0 * (wrap64 (1 + (Int.tmod (wrap64 (a2)) 9))))), .int .i64 (wrap64 (a1 * (wrap64 (1 + (Int.tmod (wrap64 (a2)) 9)))))] rfl (by (try simp only [List.map_toArray, List.map_cons, List.map_nil]); first | done | rfl | (simp only [List.length_drop, List.length_take]; rfl)) ?_; (with_reducible refine (window_Heavy.calls (wrap64 (a0 * (wrap64 (1 + (Int.tmod (wrap64 (a2)) 9))))) (wrap64 (a1 * (wrap64 (1 + (Int.tmod (wrap64 (a2)) 9))))) t120 _ A24.out).mono ?_); rintro e w' ⟨rfl, ⟨nd, rfl⟩⟩; refine ⟨_, rfl, ?_⟩) | ((with_reducible refine gate_callee (f := 19) rfl ?_); refine goesL_ (some 101) rfl rfl Try.func19 (by kernel_rfl) rfl #[.int .i64 a0, .int .i64 a1] rfl (by (try simp only [List.map_toArray, List.map_cons, List.map_nil]); first | done | rfl | (simp only [List.length_drop, List.length_take]; rfl)) ?_; (with_reducible refine (window_Heavy.calls a0 a1 t121 _ A25.out).mono ?_); rintro e w' ⟨rfl, ⟨nd, rfl⟩⟩; refine ⟨_, rfl, ?_⟩))
                go_ret
                exact ⟨by first | rfl | (simp; done) | (simp [*]; done), by repeat (first | exact Drawn0.refl _ | apply Drawn0.step)⟩
  · replace c5 := Bool.eq_false_iff.mpr c5
    subst c5
    have H1 : (some false) = some r := by rw [if_neg (show ¬ (false = true) by decide)] at H; exact H
    clear H
    have H := H1
    clear H1
    obtain rfl := Option.some.inj H
    go_enter Try.func8, Try.ntmps8
    go_wp2_with (first | ((with_reducible refine gate_callee (f := 11) rfl ?_); refine goesL_ (some 9) rfl rfl Try.func11 (by kernel_rfl) rfl #[] rfl (by (try simp only [List.map_toArray, List.map_cons, List.map_nil]); first | done | rfl | (simp only [List.length_drop, List.length_take]; rfl)) ?_; (with_reducible refine (evenhandedlaw3_awake.calls k  false _ A4.out).mono ?_); rintro e w' ⟨rfl, ⟨nd, rfl⟩⟩; refine ⟨_, rfl, ?_⟩))
    go_ret
    exact ⟨by first | rfl | (simp; done) | (simp [*]; done), by repeat (first | exact Drawn0.refl _ | apply Drawn0.step)⟩

/-- THE ONE PURE STATEMENT of evenhandedlaw3_WindowScales: yours. -/
def evenhandedlaw3_WindowScales.Pure : Prop := ∀ (a0 : Int) (a1 : Int) (a2 : Int), (Lit.int .i64 a0).wf = true → (Lit.int .i64 a1).wf = true → (Lit.int .u8 a2).wf = true → ∃ k, evenhandedlaw3_WindowScales.f k a0 a1 a2 = some true
theorem evenhandedlaw3_WindowScales.walk (P : evenhandedlaw3_WindowScales.Pure) (a0 : Int) (a1 : Int) (a2 : Int) (w : World) (w0 : (Lit.int .i64 a0).wf = true) (w1 : (Lit.int .i64 a1).wf = true) (w2 : (Lit.int .u8 a2).wf = true) :
    Calls Try.prog 8 #[.int .i64 a0, .int .i64 a1, .int .u8 a2] w fun e w' => e = .returned (.bool true) ∧ Below w.heap.size w w' := by
  obtain ⟨k, h⟩ := P a0 a1 a2 w0 w1 w2
  refine (evenhandedlaw3_WindowScales.calls k a0 a1 a2 true w h).mono ?_
  rintro e w' ⟨rfl, hd⟩
  exact ⟨rfl, hd.below⟩

end Go.Proofs.Ytnndjjpeaaloiaa.PWindowScales
