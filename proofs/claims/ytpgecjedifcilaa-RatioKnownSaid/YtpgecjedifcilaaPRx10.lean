/- Printed by a program of mine: a changed copy of the kit's printer. No condition. -/
import Derived.Test.YtpgecjedifcilaaPRx0
import Derived.Test.YtpgecjedifcilaaPRx1
import Derived.Test.YtpgecjedifcilaaPRx2
import Derived.Test.YtpgecjedifcilaaPRx3
import Derived.Test.YtpgecjedifcilaaPRx4
import Derived.Test.YtpgecjedifcilaaPRx5
import Derived.Test.YtpgecjedifcilaaPRx7
import Derived.Test.YtpgecjedifcilaaPRx8
namespace Go.Proofs.Ytpgecjedifcilaa.PR
open Go.RowKit Go.Proofs.YtpgecjedifcilaaW.PrintWords Go.Proofs.YtpgecjedifcilaaW.PrintLast Go.Proofs.YtpgecjedifcilaaW.PrintMore
attribute [local go_sem] max2_int min2_int max_two min_two max_three min_three max_four min_four   -- for this text's walks alone
set_option linter.unusedVariables false
set_option linter.unusedSimpArgs false

attribute [local go_sem high] eqA26
/-! ### evenhandedlaw2_RatioKnown: function 7 -/
def evenhandedlaw2_RatioKnown.l0 : Nat → Int → Int → Int → Int → Int → Int → Int → Int → List (S26) → Int → Int → Int → Int → Int → Int → Int → Int → Int → Option (Bool)
  | 0, _, _, _, _, _, _, _, _, _, _, _, _, _, _, _, _, _, _ => none
  | k + 1, x2, x4, x6, x8, x10, x12, x14, x16, x17, x18, x405000, x405001, x413000, x413001, x421000, x421001, x429000, x429001 => if x18 < (x17.length : Int) then (if 0 ≤ x18 then ((ratio_May.f k ((rd_T26 x17 x18).f0) ((rd_T26 x17 x18).f1)).bind fun t433 => (if t433 = true then (some false) else (evenhandedlaw2_RatioKnown.l0 k x2 x4 x6 x8 x10 x12 x14 x16 x17 (wrap64 (x18 + 1)) x405000 x405001 x413000 x413001 x421000 x421001 x429000 x429001))) else (none)) else (if x2 = 2 then (if x4 = 0 then (if (x405000 == 0 && (x405001 == 1)) = true then (if x6 = 14 then (if x8 = 0 then (if (x413000 == 4611686018427387904 && (x413001 == 1)) = true then (if x10 = 14 then (if x12 = 0 then (if (x421000 == 0 && (x421001 == 1)) = true then (if x14 = 14 then (if x16 = 0 then (if (x429000 == 1 && (x429001 == 1)) = true then ((ratio_Floor.f k (-7) 2).bind fun t434 => (if t434 = (-4) then ((ratio_Ceil.f k (-7) 2).bind fun t435 => (if t435 = (-3) then ((ratio_Cmp.f k 9223372036854775807 9223372036854775806 9223372036854775806 9223372036854775805).bind fun t436 => (some (t436 == (-1)))) else (some false))) else (some false))) else (some false)) else (some false)) else (some false)) else (some false)) else (some false)) else (some false)) else (some false)) else (some false)) else (some false)) else (some false)) else (some false)) else (some false))
def evenhandedlaw2_RatioKnown.f (k : Nat)  : Option (Bool) := (evenhandedlaw2_awake.f k).bind fun t396 => (if t396 = true then ((ratio_Of.f k 1 0).bind fun bt397 => ((ratio_Of.f k 0 (-7)).bind fun bt401 => ((ratio_Of.f k (-9223372036854775808) (-1)).bind fun bt405 => ((ratio_Of.f k (-9223372036854775808) (-2)).bind fun bt409 => ((ratio_Add.f k 9223372036854775807 1 1 1).bind fun bt413 => ((ratio_Sub.f k 1 9223372036854775807 1 9223372036854775807).bind fun bt417 => ((ratio_Mul.f k 9223372036854775807 1 2 1).bind fun bt421 => ((ratio_Mul.f k 9223372036854775807 2 2 9223372036854775807).bind fun bt425 => (evenhandedlaw2_RatioKnown.l0 k bt397.2.2 bt401.2.2 bt405.2.2 bt409.2.2 bt413.2.2 bt417.2.2 bt421.2.2 bt425.2.2 (([(⟨0, 0⟩ : S26), (⟨1, 0⟩ : S26), (⟨2, 4⟩ : S26), (⟨0, 2⟩ : S26), (⟨1, (-1)⟩ : S26)] : List (S26))) 0 bt401.1 bt401.2.1 bt409.1 bt409.2.1 bt417.1 bt417.2.1 bt425.1 bt425.2.1))))))))) else (some false))
theorem evenhandedlaw2_RatioKnown.mono_l : ∀ k, (∀ y0 y1 y2 y3 y4 y5 y6 y7 y8 y9 y10 y11 y12 y13 y14 y15 y16 y17, LeO (evenhandedlaw2_RatioKnown.l0 k y0 y1 y2 y3 y4 y5 y6 y7 y8 y9 y10 y11 y12 y13 y14 y15 y16 y17) (evenhandedlaw2_RatioKnown.l0 (k + 1) y0 y1 y2 y3 y4 y5 y6 y7 y8 y9 y10 y11 y12 y13 y14 y15 y16 y17))
  | 0 => fun _ _ _ _ _ _ _ _ _ _ _ _ _ _ _ _ _ _ r h => by simp [evenhandedlaw2_RatioKnown.l0] at h
  | k + 1 => by
    have ih0 := evenhandedlaw2_RatioKnown.mono_l k
    · intro y0 y1 y2 y3 y4 y5 y6 y7 y8 y9 y10 y11 y12 y13 y14 y15 y16 y17
      unfold evenhandedlaw2_RatioKnown.l0
      repeat' first
      | (with_reducible exact ih0 _ _ _ _ _ _ _ _ _ _ _ _ _ _ _ _ _ _)
      | (with_reducible exact evenhandedlaw2_awake.mono _)
      | (with_reducible exact ratio_Add.mono _ _ _ _ _)
      | (with_reducible exact ratio_Ceil.mono _ _ _)
      | (with_reducible exact ratio_Cmp.mono _ _ _ _ _)
      | (with_reducible exact ratio_Floor.mono _ _ _)
      | (with_reducible exact ratio_May.mono _ _ _)
      | (with_reducible exact ratio_Mul.mono _ _ _ _ _)
      | (with_reducible exact ratio_Of.mono _ _ _)
      | (with_reducible exact ratio_Sub.mono _ _ _ _ _)
      | (with_reducible exact LeO.refl _)
      | (with_reducible exact LeO.none _)
      | (with_reducible refine LeO.ite ?_ ?_)
      | (with_reducible refine LeO.bind ?_ (fun _ => ?_))
      | exact ih0 _ _ _ _ _ _ _ _ _ _ _ _ _ _ _ _ _ _
      | exact evenhandedlaw2_awake.mono _
      | exact ratio_Add.mono _ _ _ _ _
      | exact ratio_Ceil.mono _ _ _
      | exact ratio_Cmp.mono _ _ _ _ _
      | exact ratio_Floor.mono _ _ _
      | exact ratio_May.mono _ _ _
      | exact ratio_Mul.mono _ _ _ _ _
      | exact ratio_Of.mono _ _ _
      | exact ratio_Sub.mono _ _ _ _ _
      | exact LeO.none _
      | refine LeO.ite ?_ ?_
      | refine LeO.bind ?_ (fun _ => ?_)
theorem evenhandedlaw2_RatioKnown.mono : ∀ k, LeO (evenhandedlaw2_RatioKnown.f k ) (evenhandedlaw2_RatioKnown.f (k + 1) ) := by
  intro  k
  have ih0 := evenhandedlaw2_RatioKnown.mono_l k
  unfold evenhandedlaw2_RatioKnown.f
  repeat' first
      | (with_reducible exact ih0 _ _ _ _ _ _ _ _ _ _ _ _ _ _ _ _ _ _)
      | (with_reducible exact evenhandedlaw2_awake.mono _)
      | (with_reducible exact ratio_Add.mono _ _ _ _ _)
      | (with_reducible exact ratio_Ceil.mono _ _ _)
      | (with_reducible exact ratio_Cmp.mono _ _ _ _ _)
      | (with_reducible exact ratio_Floor.mono _ _ _)
      | (with_reducible exact ratio_May.mono _ _ _)
      | (with_reducible exact ratio_Mul.mono _ _ _ _ _)
      | (with_reducible exact ratio_Of.mono _ _ _)
      | (with_reducible exact ratio_Sub.mono _ _ _ _ _)
      | (with_reducible exact LeO.refl _)
      | (with_reducible exact LeO.none _)
      | (with_reducible refine LeO.ite ?_ ?_)
      | (with_reducible refine LeO.bind ?_ (fun _ => ?_))
      | exact ih0 _ _ _ _ _ _ _ _ _ _ _ _ _ _ _ _ _ _
      | exact evenhandedlaw2_awake.mono _
      | exact ratio_Add.mono _ _ _ _ _
      | exact ratio_Ceil.mono _ _ _
      | exact ratio_Cmp.mono _ _ _ _ _
      | exact ratio_Floor.mono _ _ _
      | exact ratio_May.mono _ _ _
      | exact ratio_Mul.mono _ _ _ _ _
      | exact ratio_Of.mono _ _ _
      | exact ratio_Sub.mono _ _ _ _ _
      | exact LeO.none _
      | refine LeO.ite ?_ ?_
      | refine LeO.bind ?_ (fun _ => ?_)
set_option maxHeartbeats 8000000 in
set_option maxRecDepth 100000 in
theorem evenhandedlaw2_RatioKnown.calls (k : Nat)  (r : Bool) (w : World) (h : evenhandedlaw2_RatioKnown.f k  = some r) :
    Calls Try.prog 7 #[] w fun e w' => e = .returned (.bool r) ∧ Below w.heap.size w w' := by
  have hu26 := Try.underlying26
  have HB := Aside0.mk (Below.refl w.heap.size w)
  have H : ((evenhandedlaw2_awake.f k).bind fun t396 => (if t396 = true then ((ratio_Of.f k 1 0).bind fun bt397 => ((ratio_Of.f k 0 (-7)).bind fun bt401 => ((ratio_Of.f k (-9223372036854775808) (-1)).bind fun bt405 => ((ratio_Of.f k (-9223372036854775808) (-2)).bind fun bt409 => ((ratio_Add.f k 9223372036854775807 1 1 1).bind fun bt413 => ((ratio_Sub.f k 1 9223372036854775807 1 9223372036854775807).bind fun bt417 => ((ratio_Mul.f k 9223372036854775807 1 2 1).bind fun bt421 => ((ratio_Mul.f k 9223372036854775807 2 2 9223372036854775807).bind fun bt425 => (evenhandedlaw2_RatioKnown.l0 k bt397.2.2 bt401.2.2 bt405.2.2 bt409.2.2 bt413.2.2 bt417.2.2 bt421.2.2 bt425.2.2 (([(⟨0, 0⟩ : S26), (⟨1, 0⟩ : S26), (⟨2, 4⟩ : S26), (⟨0, 2⟩ : S26), (⟨1, (-1)⟩ : S26)] : List (S26))) 0 bt401.1 bt401.2.1 bt409.1 bt409.2.1 bt417.1 bt417.2.1 bt425.1 bt425.2.1))))))))) else (some false))) = some r := h
  clear h
  replace H := Option.bind_eq_some_iff.mp H
  obtain ⟨t396, A10, H⟩ := H
  replace H : (if t396 = true then ((ratio_Of.f k 1 0).bind fun bt397 => ((ratio_Of.f k 0 (-7)).bind fun bt401 => ((ratio_Of.f k (-9223372036854775808) (-1)).bind fun bt405 => ((ratio_Of.f k (-9223372036854775808) (-2)).bind fun bt409 => ((ratio_Add.f k 9223372036854775807 1 1 1).bind fun bt413 => ((ratio_Sub.f k 1 9223372036854775807 1 9223372036854775807).bind fun bt417 => ((ratio_Mul.f k 9223372036854775807 1 2 1).bind fun bt421 => ((ratio_Mul.f k 9223372036854775807 2 2 9223372036854775807).bind fun bt425 => (evenhandedlaw2_RatioKnown.l0 k bt397.2.2 bt401.2.2 bt405.2.2 bt409.2.2 bt413.2.2 bt417.2.2 bt421.2.2 bt425.2.2 (([(⟨0, 0⟩ : S26), (⟨1, 0⟩ : S26), (⟨2, 4⟩ : S26), (⟨0, 2⟩ : S26), (⟨1, (-1)⟩ : S26)] : List (S26))) 0 bt401.1 bt401.2.1 bt409.1 bt409.2.1 bt417.1 bt417.2.1 bt425.1 bt425.2.1))))))))) else (some false)) = some r := H
  have A1 := Aside0.mk A10
  clear A10
  by_cases c2 : t396 = true
  · subst c2
    have H1 : ((ratio_Of.f k 1 0).bind fun bt397 => ((ratio_Of.f k 0 (-7)).bind fun bt401 => ((ratio_Of.f k (-9223372036854775808) (-1)).bind fun bt405 => ((ratio_Of.f k (-9223372036854775808) (-2)).bind fun bt409 => ((ratio_Add.f k 9223372036854775807 1 1 1).bind fun bt413 => ((ratio_Sub.f k 1 9223372036854775807 1 9223372036854775807).bind fun bt417 => ((ratio_Mul.f k 9223372036854775807 1 2 1).bind fun bt421 => ((ratio_Mul.f k 9223372036854775807 2 2 9223372036854775807).bind fun bt425 => (evenhandedlaw2_RatioKnown.l0 k bt397.2.2 bt401.2.2 bt405.2.2 bt409.2.2 bt413.2.2 bt417.2.2 bt421.2.2 bt425.2.2 (([(⟨0, 0⟩ : S26), (⟨1, 0⟩ : S26), (⟨2, 4⟩ : S26), (⟨0, 2⟩ : S26), (⟨1, (-1)⟩ : S26)] : List (S26))) 0 bt401.1 bt401.2.1 bt409.1 bt409.2.1 bt417.1 bt417.2.1 bt425.1 bt425.2.1))))))))) = some r := by rw [if_pos rfl] at H; exact H
    clear H
    have H := H1
    clear H1
    replace H := Option.bind_eq_some_iff.mp H
    obtain ⟨⟨t397, t398, t399⟩, A30, H⟩ := H
    replace H : ((ratio_Of.f k 0 (-7)).bind fun bt401 => ((ratio_Of.f k (-9223372036854775808) (-1)).bind fun bt405 => ((ratio_Of.f k (-9223372036854775808) (-2)).bind fun bt409 => ((ratio_Add.f k 9223372036854775807 1 1 1).bind fun bt413 => ((ratio_Sub.f k 1 9223372036854775807 1 9223372036854775807).bind fun bt417 => ((ratio_Mul.f k 9223372036854775807 1 2 1).bind fun bt421 => ((ratio_Mul.f k 9223372036854775807 2 2 9223372036854775807).bind fun bt425 => (evenhandedlaw2_RatioKnown.l0 k t399 bt401.2.2 bt405.2.2 bt409.2.2 bt413.2.2 bt417.2.2 bt421.2.2 bt425.2.2 (([(⟨0, 0⟩ : S26), (⟨1, 0⟩ : S26), (⟨2, 4⟩ : S26), (⟨0, 2⟩ : S26), (⟨1, (-1)⟩ : S26)] : List (S26))) 0 bt401.1 bt401.2.1 bt409.1 bt409.2.1 bt417.1 bt417.2.1 bt425.1 bt425.2.1)))))))) = some r := H
    have A3 := Aside0.mk A30
    clear A30
    replace H := Option.bind_eq_some_iff.mp H
    obtain ⟨⟨t401, t402, t403⟩, A40, H⟩ := H
    replace H : ((ratio_Of.f k (-9223372036854775808) (-1)).bind fun bt405 => ((ratio_Of.f k (-9223372036854775808) (-2)).bind fun bt409 => ((ratio_Add.f k 9223372036854775807 1 1 1).bind fun bt413 => ((ratio_Sub.f k 1 9223372036854775807 1 9223372036854775807).bind fun bt417 => ((ratio_Mul.f k 9223372036854775807 1 2 1).bind fun bt421 => ((ratio_Mul.f k 9223372036854775807 2 2 9223372036854775807).bind fun bt425 => (evenhandedlaw2_RatioKnown.l0 k t399 t403 bt405.2.2 bt409.2.2 bt413.2.2 bt417.2.2 bt421.2.2 bt425.2.2 (([(⟨0, 0⟩ : S26), (⟨1, 0⟩ : S26), (⟨2, 4⟩ : S26), (⟨0, 2⟩ : S26), (⟨1, (-1)⟩ : S26)] : List (S26))) 0 t401 t402 bt409.1 bt409.2.1 bt417.1 bt417.2.1 bt425.1 bt425.2.1))))))) = some r := H
    have A4 := Aside0.mk A40
    clear A40
    replace H := Option.bind_eq_some_iff.mp H
    obtain ⟨⟨t405, t406, t407⟩, A50, H⟩ := H
    replace H : ((ratio_Of.f k (-9223372036854775808) (-2)).bind fun bt409 => ((ratio_Add.f k 9223372036854775807 1 1 1).bind fun bt413 => ((ratio_Sub.f k 1 9223372036854775807 1 9223372036854775807).bind fun bt417 => ((ratio_Mul.f k 9223372036854775807 1 2 1).bind fun bt421 => ((ratio_Mul.f k 9223372036854775807 2 2 9223372036854775807).bind fun bt425 => (evenhandedlaw2_RatioKnown.l0 k t399 t403 t407 bt409.2.2 bt413.2.2 bt417.2.2 bt421.2.2 bt425.2.2 (([(⟨0, 0⟩ : S26), (⟨1, 0⟩ : S26), (⟨2, 4⟩ : S26), (⟨0, 2⟩ : S26), (⟨1, (-1)⟩ : S26)] : List (S26))) 0 t401 t402 bt409.1 bt409.2.1 bt417.1 bt417.2.1 bt425.1 bt425.2.1)))))) = some r := H
    have A5 := Aside0.mk A50
    clear A50
    replace H := Option.bind_eq_some_iff.mp H
    obtain ⟨⟨t409, t410, t411⟩, A60, H⟩ := H
    replace H : ((ratio_Add.f k 9223372036854775807 1 1 1).bind fun bt413 => ((ratio_Sub.f k 1 9223372036854775807 1 9223372036854775807).bind fun bt417 => ((ratio_Mul.f k 9223372036854775807 1 2 1).bind fun bt421 => ((ratio_Mul.f k 9223372036854775807 2 2 9223372036854775807).bind fun bt425 => (evenhandedlaw2_RatioKnown.l0 k t399 t403 t407 t411 bt413.2.2 bt417.2.2 bt421.2.2 bt425.2.2 (([(⟨0, 0⟩ : S26), (⟨1, 0⟩ : S26), (⟨2, 4⟩ : S26), (⟨0, 2⟩ : S26), (⟨1, (-1)⟩ : S26)] : List (S26))) 0 t401 t402 t409 t410 bt417.1 bt417.2.1 bt425.1 bt425.2.1))))) = some r := H
    have A6 := Aside0.mk A60
    clear A60
    replace H := Option.bind_eq_some_iff.mp H
    obtain ⟨⟨t413, t414, t415⟩, A70, H⟩ := H
    replace H : ((ratio_Sub.f k 1 9223372036854775807 1 9223372036854775807).bind fun bt417 => ((ratio_Mul.f k 9223372036854775807 1 2 1).bind fun bt421 => ((ratio_Mul.f k 9223372036854775807 2 2 9223372036854775807).bind fun bt425 => (evenhandedlaw2_RatioKnown.l0 k t399 t403 t407 t411 t415 bt417.2.2 bt421.2.2 bt425.2.2 (([(⟨0, 0⟩ : S26), (⟨1, 0⟩ : S26), (⟨2, 4⟩ : S26), (⟨0, 2⟩ : S26), (⟨1, (-1)⟩ : S26)] : List (S26))) 0 t401 t402 t409 t410 bt417.1 bt417.2.1 bt425.1 bt425.2.1)))) = some r := H
    have A7 := Aside0.mk A70
    clear A70
    replace H := Option.bind_eq_some_iff.mp H
    obtain ⟨⟨t417, t418, t419⟩, A80, H⟩ := H
    replace H : ((ratio_Mul.f k 9223372036854775807 1 2 1).bind fun bt421 => ((ratio_Mul.f k 9223372036854775807 2 2 9223372036854775807).bind fun bt425 => (evenhandedlaw2_RatioKnown.l0 k t399 t403 t407 t411 t415 t419 bt421.2.2 bt425.2.2 (([(⟨0, 0⟩ : S26), (⟨1, 0⟩ : S26), (⟨2, 4⟩ : S26), (⟨0, 2⟩ : S26), (⟨1, (-1)⟩ : S26)] : List (S26))) 0 t401 t402 t409 t410 t417 t418 bt425.1 bt425.2.1))) = some r := H
    have A8 := Aside0.mk A80
    clear A80
    replace H := Option.bind_eq_some_iff.mp H
    obtain ⟨⟨t421, t422, t423⟩, A90, H⟩ := H
    replace H : ((ratio_Mul.f k 9223372036854775807 2 2 9223372036854775807).bind fun bt425 => (evenhandedlaw2_RatioKnown.l0 k t399 t403 t407 t411 t415 t419 t423 bt425.2.2 (([(⟨0, 0⟩ : S26), (⟨1, 0⟩ : S26), (⟨2, 4⟩ : S26), (⟨0, 2⟩ : S26), (⟨1, (-1)⟩ : S26)] : List (S26))) 0 t401 t402 t409 t410 t417 t418 bt425.1 bt425.2.1)) = some r := H
    have A9 := Aside0.mk A90
    clear A90
    replace H := Option.bind_eq_some_iff.mp H
    obtain ⟨⟨t425, t426, t427⟩, A100, H⟩ := H
    replace H : (evenhandedlaw2_RatioKnown.l0 k t399 t403 t407 t411 t415 t419 t423 t427 (([(⟨0, 0⟩ : S26), (⟨1, 0⟩ : S26), (⟨2, 4⟩ : S26), (⟨0, 2⟩ : S26), (⟨1, (-1)⟩ : S26)] : List (S26))) 0 t401 t402 t409 t410 t417 t418 t425 t426) = some r := H
    have A10 := Aside0.mk A100
    clear A100
    obtain ⟨y429, hy429⟩ : ∃ y_ : List (S26), y_ = (([(⟨0, 0⟩ : S26), (⟨1, 0⟩ : S26), (⟨2, 4⟩ : S26), (⟨0, 2⟩ : S26), (⟨1, (-1)⟩ : S26)] : List (S26))) := ⟨_, rfl⟩
    replace H : (evenhandedlaw2_RatioKnown.l0 k t399 t403 t407 t411 t415 t419 t423 t427 y429 0 t401 t402 t409 t410 t417 t418 t425 t426) = some r := by first | (rw [hy429]; with_reducible exact H) | (have H2_ := (Option.bind_some _ _).symm.trans H; rw [hy429]; with_reducible exact H2_) | (have H2_ := (Option.bind_some _ _).symm.trans H; with_reducible exact H2_) | with_reducible exact H | (rw [hy429]; exact H) | exact H
    have Ny429 := Aside0.mk hy429
    clear hy429
    have H' := Aside0.mk H
    clear H
    go_enter Try.func7, Try.ntmps7
    go_wp2_with (first | ((with_reducible refine gate_callee (f := 9) rfl ?_); refine goesL_ (some 19) rfl rfl Try.func9 (by kernel_rfl) rfl #[] rfl (by (try simp only [List.map_toArray, List.map_cons, List.map_nil]); first | done | rfl | (simp only [List.length_drop, List.length_take]; rfl)) ?_; (with_reducible refine (evenhandedlaw2_awake.calls k  true _ A1.out).mono ?_); rintro e w11 ⟨rfl, hb⟩; refine ⟨_, rfl, ?_⟩; have n0_ := Aside0.mk (below_step (by repeat (first | (with_reducible first | exact HB.out | apply below_alloc | apply pw_below_drewN | apply below_drew1) | exact HB.out)) hb); clear HB; have HB := n0_; clear n0_; (try clear hb); (try clear hb2); (try clear hk); (try clear hi)) | ((with_reducible refine gate_callee (f := 10) rfl ?_); refine goesL_ (some 22) rfl rfl Try.func10 (by kernel_rfl) rfl #[.int .i64 1, .int .i64 0] rfl (by (try simp only [List.map_toArray, List.map_cons, List.map_nil]); first | done | rfl | (simp only [List.length_drop, List.length_take]; rfl)) ?_; (with_reducible refine (ratio_Of.calls k 1 0 t397 t398 t399 _ A3.out).mono ?_); rintro e w12 ⟨rfl, hb⟩; refine ⟨_, rfl, ?_⟩; have n0_ := Aside0.mk (below_step (by repeat (first | (with_reducible first | exact HB.out | apply below_alloc | apply pw_below_drewN | apply below_drew1) | exact HB.out)) hb); clear HB; have HB := n0_; clear n0_; (try clear hb); (try clear hb2); (try clear hk); (try clear hi)) | ((with_reducible refine gate_dst (N := 1) rfl ?_); refine box_event ?hg (N := 1) ?hd (cs := #[.int .i64 0, .int .i64 0]) (t := 26) ?hr ?_; (case hd => rfl); (case hg => rfl); (case hr => first | (go_simp; done) | (go_simp; rfl)); intro gb400 hg w13 hbox hb; have n0_ := Aside0.mk (below_step (by repeat (first | (with_reducible first | exact HB.out | apply below_alloc | apply pw_below_drewN | apply below_drew1) | exact HB.out)) hb); have n1_ := Aside0.mk (hbox); have n2_ := Aside0.mk ((by rw [hg]; exact (below_size (by repeat (first | (with_reducible first | exact HB.out | apply below_alloc | apply pw_below_drewN | apply below_drew1) | exact HB.out))) : w.heap.size ≤ gb400)); have n3_ := Aside0.mk ((by rw [hg]; exact (below_size (by repeat (first | (with_reducible first | exact HB.out | apply below_alloc | apply pw_below_drewN | apply below_drew1) | exact HB.out))) : w.heap.size ≤ gb400)); clear HB; have HB := n0_; have BK400 := n1_; have GW400 := n2_; have GE400 := n3_; clear n0_ n1_ n2_ n3_; clear hb hbox hg; have hcz14_0 : w13.cell? ⟨gb400, 0, none⟩ = some (.int .i64 0) := (blk_cell BK400.out 0).trans rfl; have hcz14_1 : w13.cell? ⟨gb400, 1, none⟩ = some (.int .i64 0) := (blk_cell BK400.out 1).trans rfl; have hfz14_0 := blk_frozen BK400.out 0; have hfz14_1 := blk_frozen BK400.out 1) | ((with_reducible refine gate_callee (f := 10) rfl ?_); refine goesL_ (some 26) rfl rfl Try.func10 (by kernel_rfl) rfl #[.int .i64 0, .int .i64 (-7)] rfl (by (try simp only [List.map_toArray, List.map_cons, List.map_nil]); first | done | rfl | (simp only [List.length_drop, List.length_take]; rfl)) ?_; (with_reducible refine (ratio_Of.calls k 0 (-7) t401 t402 t403 _ A4.out).mono ?_); rintro e w15 ⟨rfl, hb⟩; refine ⟨_, rfl, ?_⟩; have n0_ := Aside0.mk (blk_below (g := gb400) (o := .cells #[.int .i64 t397, .int .i64 t398] 26 (0, 0)) (by (with_reducible repeat (first | refine blk_drewN ?_ _ | refine blk_drew ?_ | refine blk_alloc ?_ _)); refine blk_put (cs := #[.int .i64 t397, .int .i64 0]) ?_ 1 _ rfl; (with_reducible repeat (first | refine blk_drewN ?_ _ | refine blk_drew ?_ | refine blk_alloc ?_ _)); refine blk_put (cs := #[.int .i64 0, .int .i64 0]) ?_ 0 _ rfl; (with_reducible repeat (first | refine blk_drewN ?_ _ | refine blk_drew ?_ | refine blk_alloc ?_ _)); exact BK400.out) hb); have n1_ := Aside0.mk (below_step (by repeat (first | (with_reducible first | exact HB.out | apply below_alloc | apply pw_below_drewN | apply below_drew1 | refine below_set ?_ GE400.out) | exact HB.out)) hb); clear BK400; clear HB; have BK400 := n0_; have HB := n1_; clear n0_ n1_; (try clear hb); (try clear hb2); (try clear hk); (try clear hi)) | ((with_reducible refine gate_dst (N := 3) rfl ?_); refine box_event ?hg (N := 3) ?hd (cs := #[.int .i64 0, .int .i64 0]) (t := 26) ?hr ?_; (case hd => rfl); (case hg => rfl); (case hr => first | (go_simp; done) | (go_simp; rfl)); intro gb404 hg w16 hbox hb; have n0_ := Aside0.mk (blk_below (g := gb400) (o := .cells #[.int .i64 t397, .int .i64 t398] 26 (0, 0)) (by (with_reducible repeat (first | refine blk_drewN ?_ _ | refine blk_drew ?_ | refine blk_alloc ?_ _)); exact BK400.out) hb); have n1_ := Aside0.mk (below_step (by repeat (first | (with_reducible first | exact HB.out | apply below_alloc | apply pw_below_drewN | apply below_drew1 | refine below_set ?_ GE400.out) | exact HB.out)) hb); have n2_ := Aside0.mk (hbox); have n3_ := Aside0.mk ((by rw [hg]; exact (below_size (by repeat (first | (with_reducible first | exact HB.out | apply below_alloc | apply pw_below_drewN | apply below_drew1 | refine below_set ?_ GE400.out) | exact HB.out))) : w.heap.size ≤ gb404)); have n4_ := Aside0.mk ((by rw [hg]; exact (below_size (by repeat (first | (with_reducible first | exact HB.out | apply below_alloc | apply pw_below_drewN | apply below_drew1 | refine below_set ?_ GE400.out) | exact HB.out))) : w.heap.size ≤ gb404)); have n5_ := Aside0.mk ((by rw [hg]; exact Nat.ne_of_lt (blk_lt (g := gb400) (o := .cells #[.int .i64 t397, .int .i64 t398] 26 (0, 0)) (by (with_reducible repeat (first | refine blk_drewN ?_ _ | refine blk_drew ?_ | refine blk_alloc ?_ _)); exact BK400.out)) : gb400 ≠ gb404)); have n6_ := Aside0.mk ((by rw [hg]; exact Nat.ne_of_gt (blk_lt (g := gb400) (o := .cells #[.int .i64 t397, .int .i64 t398] 26 (0, 0)) (by (with_reducible repeat (first | refine blk_drewN ?_ _ | refine blk_drew ?_ | refine blk_alloc ?_ _)); exact BK400.out)) : gb404 ≠ gb400)); clear BK400; clear HB; have BK400 := n0_; have HB := n1_; have BK404 := n2_; have GW404 := n3_; have GE404 := n4_; have NB400_404 := n5_; have NB404_400 := n6_; clear n0_ n1_ n2_ n3_ n4_ n5_ n6_; clear hb hbox hg; have hnb17 := NB404_400.out; have hnc17 := NB400_404.out; have hcz18_0 : w16.cell? ⟨gb404, 0, none⟩ = some (.int .i64 0) := (blk_cell BK404.out 0).trans rfl; have hcz18_1 : w16.cell? ⟨gb404, 1, none⟩ = some (.int .i64 0) := (blk_cell BK404.out 1).trans rfl; have hfz18_0 := blk_frozen BK404.out 0; have hfz18_1 := blk_frozen BK404.out 1) | ((with_reducible refine gate_callee (f := 10) rfl ?_); refine goesL_ (some 30) rfl rfl Try.func10 (by kernel_rfl) rfl #[.int .i64 (-9223372036854775808), .int .i64 (-1)] rfl (by (try simp only [List.map_toArray, List.map_cons, List.map_nil]); first | done | rfl | (simp only [List.length_drop, List.length_take]; rfl)) ?_; (with_reducible refine (ratio_Of.calls k (-9223372036854775808) (-1) t405 t406 t407 _ A5.out).mono ?_); rintro e w19 ⟨rfl, hb⟩; refine ⟨_, rfl, ?_⟩; have n0_ := Aside0.mk (blk_below (g := gb400) (o := .cells #[.int .i64 t397, .int .i64 t398] 26 (0, 0)) (by (with_reducible repeat (first | refine blk_drewN ?_ _ | refine blk_drew ?_ | refine blk_alloc ?_ _)); refine blk_far ?_ NB400_404.out _; (with_reducible repeat (first | refine blk_drewN ?_ _ | refine blk_drew ?_ | refine blk_alloc ?_ _)); refine blk_far ?_ NB400_404.out _; (with_reducible repeat (first | refine blk_drewN ?_ _ | refine blk_drew ?_ | refine blk_alloc ?_ _)); exact BK400.out) hb); have n1_ := Aside0.mk (blk_below (g := gb404) (o := .cells #[.int .i64 t401, .int .i64 t402] 26 (0, 0)) (by (with_reducible repeat (first | refine blk_drewN ?_ _ | refine blk_drew ?_ | refine blk_alloc ?_ _)); refine blk_put (cs := #[.int .i64 t401, .int .i64 0]) ?_ 1 _ rfl; (with_reducible repeat (first | refine blk_drewN ?_ _ | refine blk_drew ?_ | refine blk_alloc ?_ _)); refine blk_put (cs := #[.int .i64 0, .int .i64 0]) ?_ 0 _ rfl; (with_reducible repeat (first | refine blk_drewN ?_ _ | refine blk_drew ?_ | refine blk_alloc ?_ _)); exact BK404.out) hb); have n2_ := Aside0.mk (below_step (by repeat (first | (with_reducible first | exact HB.out | apply below_alloc | apply pw_below_drewN | apply below_drew1 | refine below_set ?_ GE400.out | refine below_set ?_ GE404.out) | exact HB.out)) hb); clear BK400; clear BK404; clear HB; have BK400 := n0_; have BK404 := n1_; have HB := n2_; clear n0_ n1_ n2_; (try clear hb); (try clear hb2); (try clear hk); (try clear hi)) | ((with_reducible refine gate_dst (N := 5) rfl ?_); refine box_event ?hg (N := 5) ?hd (cs := #[.int .i64 0, .int .i64 0]) (t := 26) ?hr ?_; (case hd => rfl); (case hg => rfl); (case hr => first | (go_simp; done) | (go_simp; rfl)); intro gb408 hg w20 hbox hb; have n0_ := Aside0.mk (blk_below (g := gb400) (o := .cells #[.int .i64 t397, .int .i64 t398] 26 (0, 0)) (by (with_reducible repeat (first | refine blk_drewN ?_ _ | refine blk_drew ?_ | refine blk_alloc ?_ _)); exact BK400.out) hb); have n1_ := Aside0.mk (blk_below (g := gb404) (o := .cells #[.int .i64 t401, .int .i64 t402] 26 (0, 0)) (by (with_reducible repeat (first | refine blk_drewN ?_ _ | refine blk_drew ?_ | refine blk_alloc ?_ _)); exact BK404.out) hb); have n2_ := Aside0.mk (below_step (by repeat (first | (with_reducible first | exact HB.out | apply below_alloc | apply pw_below_drewN | apply below_drew1 | refine below_set ?_ GE400.out | refine below_set ?_ GE404.out) | exact HB.out)) hb); have n3_ := Aside0.mk (hbox); have n4_ := Aside0.mk ((by rw [hg]; exact (below_size (by repeat (first | (with_reducible first | exact HB.out | apply below_alloc | apply pw_below_drewN | apply below_drew1 | refine below_set ?_ GE400.out | refine below_set ?_ GE404.out) | exact HB.out))) : w.heap.size ≤ gb408)); have n5_ := Aside0.mk ((by rw [hg]; exact (below_size (by repeat (first | (with_reducible first | exact HB.out | apply below_alloc | apply pw_below_drewN | apply below_drew1 | refine below_set ?_ GE400.out | refine below_set ?_ GE404.out) | exact HB.out))) : w.heap.size ≤ gb408)); have n6_ := Aside0.mk ((by rw [hg]; exact Nat.ne_of_lt (blk_lt (g := gb400) (o := .cells #[.int .i64 t397, .int .i64 t398] 26 (0, 0)) (by (with_reducible repeat (first | refine blk_drewN ?_ _ | refine blk_drew ?_ | refine blk_alloc ?_ _)); exact BK400.out)) : gb400 ≠ gb408)); have n7_ := Aside0.mk ((by rw [hg]; exact Nat.ne_of_gt (blk_lt (g := gb400) (o := .cells #[.int .i64 t397, .int .i64 t398] 26 (0, 0)) (by (with_reducible repeat (first | refine blk_drewN ?_ _ | refine blk_drew ?_ | refine blk_alloc ?_ _)); exact BK400.out)) : gb408 ≠ gb400)); have n8_ := Aside0.mk ((by rw [hg]; exact Nat.ne_of_lt (blk_lt (g := gb404) (o := .cells #[.int .i64 t401, .int .i64 t402] 26 (0, 0)) (by (with_reducible repeat (first | refine blk_drewN ?_ _ | refine blk_drew ?_ | refine blk_alloc ?_ _)); exact BK404.out)) : gb404 ≠ gb408)); have n9_ := Aside0.mk ((by rw [hg]; exact Nat.ne_of_gt (blk_lt (g := gb404) (o := .cells #[.int .i64 t401, .int .i64 t402] 26 (0, 0)) (by (with_reducible repeat (first | refine blk_drewN ?_ _ | refine blk_drew ?_ | refine blk_alloc ?_ _)); exact BK404.out)) : gb408 ≠ gb404)); clear BK400; clear BK404; clear HB; have BK400 := n0_; have BK404 := n1_; have HB := n2_; have BK408 := n3_; have GW408 := n4_; have GE408 := n5_; have NB400_408 := n6_; have NB408_400 := n7_; have NB404_408 := n8_; have NB408_404 := n9_; clear n0_ n1_ n2_ n3_ n4_ n5_ n6_ n7_ n8_ n9_; clear hb hbox hg; have hnb21 := NB408_400.out; have hnc21 := NB400_408.out; have hnb22 := NB408_404.out; have hnc22 := NB404_408.out; have hcz23_0 : w20.cell? ⟨gb408, 0, none⟩ = some (.int .i64 0) := (blk_cell BK408.out 0).trans rfl; have hcz23_1 : w20.cell? ⟨gb408, 1, none⟩ = some (.int .i64 0) := (blk_cell BK408.out 1).trans rfl; have hfz23_0 := blk_frozen BK408.out 0; have hfz23_1 := blk_frozen BK408.out 1) | ((with_reducible refine gate_callee (f := 10) rfl ?_); refine goesL_ (some 34) rfl rfl Try.func10 (by kernel_rfl) rfl #[.int .i64 (-9223372036854775808), .int .i64 (-2)] rfl (by (try simp only [List.map_toArray, List.map_cons, List.map_nil]); first | done | rfl | (simp only [List.length_drop, List.length_take]; rfl)) ?_; (with_reducible refine (ratio_Of.calls k (-9223372036854775808) (-2) t409 t410 t411 _ A6.out).mono ?_); rintro e w24 ⟨rfl, hb⟩; refine ⟨_, rfl, ?_⟩; have n0_ := Aside0.mk (blk_below (g := gb400) (o := .cells #[.int .i64 t397, .int .i64 t398] 26 (0, 0)) (by (with_reducible repeat (first | refine blk_drewN ?_ _ | refine blk_drew ?_ | refine blk_alloc ?_ _)); refine blk_far ?_ NB400_408.out _; (with_reducible repeat (first | refine blk_drewN ?_ _ | refine blk_drew ?_ | refine blk_alloc ?_ _)); refine blk_far ?_ NB400_408.out _; (with_reducible repeat (first | refine blk_drewN ?_ _ | refine blk_drew ?_ | refine blk_alloc ?_ _)); exact BK400.out) hb); have n1_ := Aside0.mk (blk_below (g := gb404) (o := .cells #[.int .i64 t401, .int .i64 t402] 26 (0, 0)) (by (with_reducible repeat (first | refine blk_drewN ?_ _ | refine blk_drew ?_ | refine blk_alloc ?_ _)); refine blk_far ?_ NB404_408.out _; (with_reducible repeat (first | refine blk_drewN ?_ _ | refine blk_drew ?_ | refine blk_alloc ?_ _)); refine blk_far ?_ NB404_408.out _; (with_reducible repeat (first | refine blk_drewN ?_ _ | refine blk_drew ?_ | refine blk_alloc ?_ _)); exact BK404.out) hb); have n2_ := Aside0.mk (blk_below (g := gb408) (o := .cells #[.int .i64 t405, .int .i64 t406] 26 (0, 0)) (by (with_reducible repeat (first | refine blk_drewN ?_ _ | refine blk_drew ?_ | refine blk_alloc ?_ _)); refine blk_put (cs := #[.int .i64 t405, .int .i64 0]) ?_ 1 _ rfl; (with_reducible repeat (first | refine blk_drewN ?_ _ | refine blk_drew ?_ | refine blk_alloc ?_ _)); refine blk_put (cs := #[.int .i64 0, .int .i64 0]) ?_ 0 _ rfl; (with_reducible repeat (first | refine blk_drewN ?_ _ | refine blk_drew ?_ | refine blk_alloc ?_ _)); exact BK408.out) hb); have n3_ := Aside0.mk (below_step (by repeat (first | (with_reducible first | exact HB.out | apply below_alloc | apply pw_below_drewN | apply below_drew1 | refine below_set ?_ GE400.out | refine below_set ?_ GE404.out | refine below_set ?_ GE408.out) | exact HB.out)) hb); clear BK400; clear BK404; clear BK408; clear HB; have BK400 := n0_; have BK404 := n1_; have BK408 := n2_; have HB := n3_; clear n0_ n1_ n2_ n3_; (try clear hb); (try clear hb2); (try clear hk); (try clear hi)) | ((with_reducible refine gate_dst (N := 7) rfl ?_); refine box_event ?hg (N := 7) ?hd (cs := #[.int .i64 0, .int .i64 0]) (t := 26) ?hr ?_; (case hd => rfl); (case hg => rfl); (case hr => first | (go_simp; done) | (go_simp; rfl)); intro gb412 hg w25 hbox hb; have n0_ := Aside0.mk (blk_below (g := gb400) (o := .cells #[.int .i64 t397, .int .i64 t398] 26 (0, 0)) (by (with_reducible repeat (first | refine blk_drewN ?_ _ | refine blk_drew ?_ | refine blk_alloc ?_ _)); exact BK400.out) hb); have n1_ := Aside0.mk (blk_below (g := gb404) (o := .cells #[.int .i64 t401, .int .i64 t402] 26 (0, 0)) (by (with_reducible repeat (first | refine blk_drewN ?_ _ | refine blk_drew ?_ | refine blk_alloc ?_ _)); exact BK404.out) hb); have n2_ := Aside0.mk (blk_below (g := gb408) (o := .cells #[.int .i64 t405, .int .i64 t406] 26 (0, 0)) (by (with_reducible repeat (first | refine blk_drewN ?_ _ | refine blk_drew ?_ | refine blk_alloc ?_ _)); exact BK408.out) hb); have n3_ := Aside0.mk (below_step (by repeat (first | (with_reducible first | exact HB.out | apply below_alloc | apply pw_below_drewN | apply below_drew1 | refine below_set ?_ GE400.out | refine below_set ?_ GE404.out | refine below_set ?_ GE408.out) | exact HB.out)) hb); have n4_ := Aside0.mk (hbox); have n5_ := Aside0.mk ((by rw [hg]; exact (below_size (by repeat (first | (with_reducible first | exact HB.out | apply below_alloc | apply pw_below_drewN | apply below_drew1 | refine below_set ?_ GE400.out | refine below_set ?_ GE404.out | refine below_set ?_ GE408.out) | exact HB.out))) : w.heap.size ≤ gb412)); have n6_ := Aside0.mk ((by rw [hg]; exact (below_size (by repeat (first | (with_reducible first | exact HB.out | apply below_alloc | apply pw_below_drewN | apply below_drew1 | refine below_set ?_ GE400.out | refine below_set ?_ GE404.out | refine below_set ?_ GE408.out) | exact HB.out))) : w.heap.size ≤ gb412)); have n7_ := Aside0.mk ((by rw [hg]; exact Nat.ne_of_lt (blk_lt (g := gb400) (o := .cells #[.int .i64 t397, .int .i64 t398] 26 (0, 0)) (by (with_reducible repeat (first | refine blk_drewN ?_ _ | refine blk_drew ?_ | refine blk_alloc ?_ _)); exact BK400.out)) : gb400 ≠ gb412)); have n8_ := Aside0.mk ((by rw [hg]; exact Nat.ne_of_gt (blk_lt (g := gb400) (o := .cells #[.int .i64 t397, .int .i64 t398] 26 (0, 0)) (by (with_reducible repeat (first | refine blk_drewN ?_ _ | refine blk_drew ?_ | refine blk_alloc ?_ _)); exact BK400.out)) : gb412 ≠ gb400)); have n9_ := Aside0.mk ((by rw [hg]; exact Nat.ne_of_lt (blk_lt (g := gb404) (o := .cells #[.int .i64 t401, .int .i64 t402] 26 (0, 0)) (by (with_reducible repeat (first | refine blk_drewN ?_ _ | refine blk_drew ?_ | refine blk_alloc ?_ _)); exact BK404.out)) : gb404 ≠ gb412)); have n10_ := Aside0.mk ((by rw [hg]; exact Nat.ne_of_gt (blk_lt (g := gb404) (o := .cells #[.int .i64 t401, .int .i64 t402] 26 (0, 0)) (by (with_reducible repeat (first | refine blk_drewN ?_ _ | refine blk_drew ?_ | refine blk_alloc ?_ _)); exact BK404.out)) : gb412 ≠ gb404)); have n11_ := Aside0.mk ((by rw [hg]; exact Nat.ne_of_lt (blk_lt (g := gb408) (o := .cells #[.int .i64 t405, .int .i64 t406] 26 (0, 0)) (by (with_reducible repeat (first | refine blk_drewN ?_ _ | refine blk_drew ?_ | refine blk_alloc ?_ _)); exact BK408.out)) : gb408 ≠ gb412)); have n12_ := Aside0.mk ((by rw [hg]; exact Nat.ne_of_gt (blk_lt (g := gb408) (o := .cells #[.int .i64 t405, .int .i64 t406] 26 (0, 0)) (by (with_reducible repeat (first | refine blk_drewN ?_ _ | refine blk_drew ?_ | refine blk_alloc ?_ _)); exact BK408.out)) : gb412 ≠ gb408)); clear BK400; clear BK404; clear BK408; clear HB; have BK400 := n0_; have BK404 := n1_; have BK408 := n2_; have HB := n3_; have BK412 := n4_; have GW412 := n5_; have GE412 := n6_; have NB400_412 := n7_; have NB412_400 := n8_; have NB404_412 := n9_; have NB412_404 := n10_; have NB408_412 := n11_; have NB412_408 := n12_; clear n0_ n1_ n2_ n3_ n4_ n5_ n6_ n7_ n8_ n9_ n10_ n11_ n12_; clear hb hbox hg; have hnb26 := NB412_400.out; have hnc26 := NB400_412.out; have hnb27 := NB412_404.out; have hnc27 := NB404_412.out; have hnb28 := NB412_408.out; have hnc28 := NB408_412.out; have hcz29_0 : w25.cell? ⟨gb412, 0, none⟩ = some (.int .i64 0) := (blk_cell BK412.out 0).trans rfl; have hcz29_1 : w25.cell? ⟨gb412, 1, none⟩ = some (.int .i64 0) := (blk_cell BK412.out 1).trans rfl; have hfz29_0 := blk_frozen BK412.out 0; have hfz29_1 := blk_frozen BK412.out 1) | ((with_reducible refine gate_callee (f := 11) rfl ?_); refine goesL_ (some 40) rfl rfl Try.func11 (by kernel_rfl) rfl #[.agg #[.int .i64 9223372036854775807, .int .i64 1], .agg #[.int .i64 1, .int .i64 1]] rfl (by (try simp only [List.map_toArray, List.map_cons, List.map_nil]); first | done | rfl | (simp only [List.length_drop, List.length_take]; rfl)) ?_; (with_reducible refine (ratio_Add.calls k 9223372036854775807 1 1 1 t413 t414 t415 _ A7.out).mono ?_); rintro e w30 ⟨rfl, hb⟩; refine ⟨_, rfl, ?_⟩; have n0_ := Aside0.mk (blk_below (g := gb400) (o := .cells #[.int .i64 t397, .int .i64 t398] 26 (0, 0)) (by (with_reducible repeat (first | refine blk_drewN ?_ _ | refine blk_drew ?_ | refine blk_alloc ?_ _)); refine blk_far ?_ NB400_412.out _; (with_reducible repeat (first | refine blk_drewN ?_ _ | refine blk_drew ?_ | refine blk_alloc ?_ _)); refine blk_far ?_ NB400_412.out _; (with_reducible repeat (first | refine blk_drewN ?_ _ | refine blk_drew ?_ | refine blk_alloc ?_ _)); exact BK400.out) hb); have n1_ := Aside0.mk (blk_below (g := gb404) (o := .cells #[.int .i64 t401, .int .i64 t402] 26 (0, 0)) (by (with_reducible repeat (first | refine blk_drewN ?_ _ | refine blk_drew ?_ | refine blk_alloc ?_ _)); refine blk_far ?_ NB404_412.out _; (with_reducible repeat (first | refine blk_drewN ?_ _ | refine blk_drew ?_ | refine blk_alloc ?_ _)); refine blk_far ?_ NB404_412.out _; (with_reducible repeat (first | refine blk_drewN ?_ _ | refine blk_drew ?_ | refine blk_alloc ?_ _)); exact BK404.out) hb); have n2_ := Aside0.mk (blk_below (g := gb408) (o := .cells #[.int .i64 t405, .int .i64 t406] 26 (0, 0)) (by (with_reducible repeat (first | refine blk_drewN ?_ _ | refine blk_drew ?_ | refine blk_alloc ?_ _)); refine blk_far ?_ NB408_412.out _; (with_reducible repeat (first | refine blk_drewN ?_ _ | refine blk_drew ?_ | refine blk_alloc ?_ _)); refine blk_far ?_ NB408_412.out _; (with_reducible repeat (first | refine blk_drewN ?_ _ | refine blk_drew ?_ | refine blk_alloc ?_ _)); exact BK408.out) hb); have n3_ := Aside0.mk (blk_below (g := gb412) (o := .cells #[.int .i64 t409, .int .i64 t410] 26 (0, 0)) (by (with_reducible repeat (first | refine blk_drewN ?_ _ | refine blk_drew ?_ | refine blk_alloc ?_ _)); refine blk_put (cs := #[.int .i64 t409, .int .i64 0]) ?_ 1 _ rfl; (with_reducible repeat (first | refine blk_drewN ?_ _ | refine blk_drew ?_ | refine blk_alloc ?_ _)); refine blk_put (cs := #[.int .i64 0, .int .i64 0]) ?_ 0 _ rfl; (with_reducible repeat (first | refine blk_drewN ?_ _ | refine blk_drew ?_ | refine blk_alloc ?_ _)); exact BK412.out) hb); have n4_ := Aside0.mk (below_step (by repeat (first | (with_reducible first | exact HB.out | apply below_alloc | apply pw_below_drewN | apply below_drew1 | refine below_set ?_ GE400.out | refine below_set ?_ GE404.out | refine below_set ?_ GE408.out | refine below_set ?_ GE412.out) | exact HB.out)) hb); clear BK400; clear BK404; clear BK408; clear BK412; clear HB; have BK400 := n0_; have BK404 := n1_; have BK408 := n2_; have BK412 := n3_; have HB := n4_; clear n0_ n1_ n2_ n3_ n4_; (try clear hb); (try clear hb2); (try clear hk); (try clear hi)) | ((with_reducible refine gate_dst (N := 9) rfl ?_); refine box_event ?hg (N := 9) ?hd (cs := #[.int .i64 0, .int .i64 0]) (t := 26) ?hr ?_; (case hd => rfl); (case hg => rfl); (case hr => first | (go_simp; done) | (go_simp; rfl)); intro gb416 hg w31 hbox hb; have n0_ := Aside0.mk (blk_below (g := gb400) (o := .cells #[.int .i64 t397, .int .i64 t398] 26 (0, 0)) (by (with_reducible repeat (first | refine blk_drewN ?_ _ | refine blk_drew ?_ | refine blk_alloc ?_ _)); exact BK400.out) hb); have n1_ := Aside0.mk (blk_below (g := gb404) (o := .cells #[.int .i64 t401, .int .i64 t402] 26 (0, 0)) (by (with_reducible repeat (first | refine blk_drewN ?_ _ | refine blk_drew ?_ | refine blk_alloc ?_ _)); exact BK404.out) hb); have n2_ := Aside0.mk (blk_below (g := gb408) (o := .cells #[.int .i64 t405, .int .i64 t406] 26 (0, 0)) (by (with_reducible repeat (first | refine blk_drewN ?_ _ | refine blk_drew ?_ | refine blk_alloc ?_ _)); exact BK408.out) hb); have n3_ := Aside0.mk (blk_below (g := gb412) (o := .cells #[.int .i64 t409, .int .i64 t410] 26 (0, 0)) (by (with_reducible repeat (first | refine blk_drewN ?_ _ | refine blk_drew ?_ | refine blk_alloc ?_ _)); exact BK412.out) hb); have n4_ := Aside0.mk (below_step (by repeat (first | (with_reducible first | exact HB.out | apply below_alloc | apply pw_below_drewN | apply below_drew1 | refine below_set ?_ GE400.out | refine below_set ?_ GE404.out | refine below_set ?_ GE408.out | refine below_set ?_ GE412.out) | exact HB.out)) hb); have n5_ := Aside0.mk (hbox); have n6_ := Aside0.mk ((by rw [hg]; exact (below_size (by repeat (first | (with_reducible first | exact HB.out | apply below_alloc | apply pw_below_drewN | apply below_drew1 | refine below_set ?_ GE400.out | refine below_set ?_ GE404.out | refine below_set ?_ GE408.out | refine below_set ?_ GE412.out) | exact HB.out))) : w.heap.size ≤ gb416)); have n7_ := Aside0.mk ((by rw [hg]; exact (below_size (by repeat (first | (with_reducible first | exact HB.out | apply below_alloc | apply pw_below_drewN | apply below_drew1 | refine below_set ?_ GE400.out | refine below_set ?_ GE404.out | refine below_set ?_ GE408.out | refine below_set ?_ GE412.out) | exact HB.out))) : w.heap.size ≤ gb416)); have n8_ := Aside0.mk ((by rw [hg]; exact Nat.ne_of_lt (blk_lt (g := gb400) (o := .cells #[.int .i64 t397, .int .i64 t398] 26 (0, 0)) (by (with_reducible repeat (first | refine blk_drewN ?_ _ | refine blk_drew ?_ | refine blk_alloc ?_ _)); exact BK400.out)) : gb400 ≠ gb416)); have n9_ := Aside0.mk ((by rw [hg]; exact Nat.ne_of_gt (blk_lt (g := gb400) (o := .cells #[.int .i64 t397, .int .i64 t398] 26 (0, 0)) (by (with_reducible repeat (first | refine blk_drewN ?_ _ | refine blk_drew ?_ | refine blk_alloc ?_ _)); exact BK400.out)) : gb416 ≠ gb400)); have n10_ := Aside0.mk ((by rw [hg]; exact Nat.ne_of_lt (blk_lt (g := gb404) (o := .cells #[.int .i64 t401, .int .i64 t402] 26 (0, 0)) (by (with_reducible repeat (first | refine blk_drewN ?_ _ | refine blk_drew ?_ | refine blk_alloc ?_ _)); exact BK404.out)) : gb404 ≠ gb416)); have n11_ := Aside0.mk ((by rw [hg]; exact Nat.ne_of_gt (blk_lt (g := gb404) (o := .cells #[.int .i64 t401, .int .i64 t402] 26 (0, 0)) (by (with_reducible repeat (first | refine blk_drewN ?_ _ | refine blk_drew ?_ | refine blk_alloc ?_ _)); exact BK404.out)) : gb416 ≠ gb404)); have n12_ := Aside0.mk ((by rw [hg]; exact Nat.ne_of_lt (blk_lt (g := gb408) (o := .cells #[.int .i64 t405, .int .i64 t406] 26 (0, 0)) (by (with_reducible repeat (first | refine blk_drewN ?_ _ | refine blk_drew ?_ | refine blk_alloc ?_ _)); exact BK408.out)) : gb408 ≠ gb416)); have n13_ := Aside0.mk ((by rw [hg]; exact Nat.ne_of_gt (blk_lt (g := gb408) (o := .cells #[.int .i64 t405, .int .i64 t406] 26 (0, 0)) (by (with_reducible repeat (first | refine blk_drewN ?_ _ | refine blk_drew ?_ | refine blk_alloc ?_ _)); exact BK408.out)) : gb416 ≠ gb408)); have n14_ := Aside0.mk ((by rw [hg]; exact Nat.ne_of_lt (blk_lt (g := gb412) (o := .cells #[.int .i64 t409, .int .i64 t410] 26 (0, 0)) (by (with_reducible repeat (first | refine blk_drewN ?_ _ | refine blk_drew ?_ | refine blk_alloc ?_ _)); exact BK412.out)) : gb412 ≠ gb416)); have n15_ := Aside0.mk ((by rw [hg]; exact Nat.ne_of_gt (blk_lt (g := gb412) (o := .cells #[.int .i64 t409, .int .i64 t410] 26 (0, 0)) (by (with_reducible repeat (first | refine blk_drewN ?_ _ | refine blk_drew ?_ | refine blk_alloc ?_ _)); exact BK412.out)) : gb416 ≠ gb412)); clear BK400; clear BK404; clear BK408; clear BK412; clear HB; have BK400 := n0_; have BK404 := n1_; have BK408 := n2_; have BK412 := n3_; have HB := n4_; have BK416 := n5_; have GW416 := n6_; have GE416 := n7_; have NB400_416 := n8_; have NB416_400 := n9_; have NB404_416 := n10_; have NB416_404 := n11_; have NB408_416 := n12_; have NB416_408 := n13_; have NB412_416 := n14_; have NB416_412 := n15_; clear n0_ n1_ n2_ n3_ n4_ n5_ n6_ n7_ n8_ n9_ n10_ n11_ n12_ n13_ n14_ n15_; clear hb hbox hg; have hnb32 := NB416_400.out; have hnc32 := NB400_416.out; have hnb33 := NB416_404.out; have hnc33 := NB404_416.out; have hnb34 := NB416_408.out; have hnc34 := NB408_416.out; have hnb35 := NB416_412.out; have hnc35 := NB412_416.out; have hcz36_0 : w31.cell? ⟨gb416, 0, none⟩ = some (.int .i64 0) := (blk_cell BK416.out 0).trans rfl; have hcz36_1 : w31.cell? ⟨gb416, 1, none⟩ = some (.int .i64 0) := (blk_cell BK416.out 1).trans rfl; have hfz36_0 := blk_frozen BK416.out 0; have hfz36_1 := blk_frozen BK416.out 1) | ((with_reducible refine gate_callee (f := 17) rfl ?_); refine goesL_ (some 46) rfl rfl Try.func17 (by kernel_rfl) rfl #[.agg #[.int .i64 1, .int .i64 9223372036854775807], .agg #[.int .i64 1, .int .i64 9223372036854775807]] rfl (by (try simp only [List.map_toArray, List.map_cons, List.map_nil]); first | done | rfl | (simp only [List.length_drop, List.length_take]; rfl)) ?_; (with_reducible refine (ratio_Sub.calls k 1 9223372036854775807 1 9223372036854775807 t417 t418 t419 _ A8.out).mono ?_); rintro e w37 ⟨rfl, hb⟩; refine ⟨_, rfl, ?_⟩; have n0_ := Aside0.mk (blk_below (g := gb400) (o := .cells #[.int .i64 t397, .int .i64 t398] 26 (0, 0)) (by (with_reducible repeat (first | refine blk_drewN ?_ _ | refine blk_drew ?_ | refine blk_alloc ?_ _)); refine blk_far ?_ NB400_416.out _; (with_reducible repeat (first | refine blk_drewN ?_ _ | refine blk_drew ?_ | refine blk_alloc ?_ _)); refine blk_far ?_ NB400_416.out _; (with_reducible repeat (first | refine blk_drewN ?_ _ | refine blk_drew ?_ | refine blk_alloc ?_ _)); exact BK400.out) hb); have n1_ := Aside0.mk (blk_below (g := gb404) (o := .cells #[.int .i64 t401, .int .i64 t402] 26 (0, 0)) (by (with_reducible repeat (first | refine blk_drewN ?_ _ | refine blk_drew ?_ | refine blk_alloc ?_ _)); refine blk_far ?_ NB404_416.out _; (with_reducible repeat (first | refine blk_drewN ?_ _ | refine blk_drew ?_ | refine blk_alloc ?_ _)); refine blk_far ?_ NB404_416.out _; (with_reducible repeat (first | refine blk_drewN ?_ _ | refine blk_drew ?_ | refine blk_alloc ?_ _)); exact BK404.out) hb); have n2_ := Aside0.mk (blk_below (g := gb408) (o := .cells #[.int .i64 t405, .int .i64 t406] 26 (0, 0)) (by (with_reducible repeat (first | refine blk_drewN ?_ _ | refine blk_drew ?_ | refine blk_alloc ?_ _)); refine blk_far ?_ NB408_416.out _; (with_reducible repeat (first | refine blk_drewN ?_ _ | refine blk_drew ?_ | refine blk_alloc ?_ _)); refine blk_far ?_ NB408_416.out _; (with_reducible repeat (first | refine blk_drewN ?_ _ | refine blk_drew ?_ | refine blk_alloc ?_ _)); exact BK408.out) hb); have n3_ := Aside0.mk (blk_below (g := gb412) (o := .cells #[.int .i64 t409, .int .i64 t410] 26 (0, 0)) (by (with_reducible repeat (first | refine blk_drewN ?_ _ | refine blk_drew ?_ | refine blk_alloc ?_ _)); refine blk_far ?_ NB412_416.out _; (with_reducible repeat (first | refine blk_drewN ?_ _ | refine blk_drew ?_ | refine blk_alloc ?_ _)); refine blk_far ?_ NB412_416.out _; (with_reducible repeat (first | refine blk_drewN ?_ _ | refine blk_drew ?_ | refine blk_alloc ?_ _)); exact BK412.out) hb); have n4_ := Aside0.mk (blk_below (g := gb416) (o := .cells #[.int .i64 t413, .int .i64 t414] 26 (0, 0)) (by (with_reducible repeat (first | refine blk_drewN ?_ _ | refine blk_drew ?_ | refine blk_alloc ?_ _)); refine blk_put (cs := #[.int .i64 t413, .int .i64 0]) ?_ 1 _ rfl; (with_reducible repeat (first | refine blk_drewN ?_ _ | refine blk_drew ?_ | refine blk_alloc ?_ _)); refine blk_put (cs := #[.int .i64 0, .int .i64 0]) ?_ 0 _ rfl; (with_reducible repeat (first | refine blk_drewN ?_ _ | refine blk_drew ?_ | refine blk_alloc ?_ _)); exact BK416.out) hb); have n5_ := Aside0.mk (below_step (by repeat (first | (with_reducible first | exact HB.out | apply below_alloc | apply pw_below_drewN | apply below_drew1 | refine below_set ?_ GE400.out | refine below_set ?_ GE404.out | refine below_set ?_ GE408.out | refine below_set ?_ GE412.out | refine below_set ?_ GE416.out) | exact HB.out)) hb); clear BK400; clear BK404; clear BK408; clear BK412; clear BK416; clear HB; have BK400 := n0_; have BK404 := n1_; have BK408 := n2_; have BK412 := n3_; have BK416 := n4_; have HB := n5_; clear n0_ n1_ n2_ n3_ n4_ n5_; (try clear hb); (try clear hb2); (try clear hk); (try clear hi)) | ((with_reducible refine gate_dst (N := 11) rfl ?_); refine box_event ?hg (N := 11) ?hd (cs := #[.int .i64 0, .int .i64 0]) (t := 26) ?hr ?_; (case hd => rfl); (case hg => rfl); (case hr => first | (go_simp; done) | (go_simp; rfl)); intro gb420 hg w38 hbox hb; have n0_ := Aside0.mk (blk_below (g := gb400) (o := .cells #[.int .i64 t397, .int .i64 t398] 26 (0, 0)) (by (with_reducible repeat (first | refine blk_drewN ?_ _ | refine blk_drew ?_ | refine blk_alloc ?_ _)); exact BK400.out) hb); have n1_ := Aside0.mk (blk_below (g := gb404) (o := .cells #[.int .i64 t401, .int .i64 t402] 26 (0, 0)) (by (with_reducible repeat (first | refine blk_drewN ?_ _ | refine blk_drew ?_ | refine blk_alloc ?_ _)); exact BK404.out) hb); have n2_ := Aside0.mk (blk_below (g := gb408) (o := .cells #[.int .i64 t405, .int .i64 t406] 26 (0, 0)) (by (with_reducible repeat (first | refine blk_drewN ?_ _ | refine blk_drew ?_ | refine blk_alloc ?_ _)); exact BK408.out) hb); have n3_ := Aside0.mk (blk_below (g := gb412) (o := .cells #[.int .i64 t409, .int .i64 t410] 26 (0, 0)) (by (with_reducible repeat (first | refine blk_drewN ?_ _ | refine blk_drew ?_ | refine blk_alloc ?_ _)); exact BK412.out) hb); have n4_ := Aside0.mk (blk_below (g := gb416) (o := .cells #[.int .i64 t413, .int .i64 t414] 26 (0, 0)) (by (with_reducible repeat (first | refine blk_drewN ?_ _ | refine blk_drew ?_ | refine blk_alloc ?_ _)); exact BK416.out) hb); have n5_ := Aside0.mk (below_step (by repeat (first | (with_reducible first | exact HB.out | apply below_alloc | apply pw_below_drewN | apply below_drew1 | refine below_set ?_ GE400.out | refine below_set ?_ GE404.out | refine below_set ?_ GE408.out | refine below_set ?_ GE412.out | refine below_set ?_ GE416.out) | exact HB.out)) hb); have n6_ := Aside0.mk (hbox); have n7_ := Aside0.mk ((by rw [hg]; exact (below_size (by repeat (first | (with_reducible first | exact HB.out | apply below_alloc | apply pw_below_drewN | apply below_drew1 | refine below_set ?_ GE400.out | refine below_set ?_ GE404.out | refine below_set ?_ GE408.out | refine below_set ?_ GE412.out | refine below_set ?_ GE416.out) | exact HB.out))) : w.heap.size ≤ gb420)); have n8_ := Aside0.mk ((by rw [hg]; exact (below_size (by repeat (first | (with_reducible first | exact HB.out | apply below_alloc | apply pw_below_drewN | apply below_drew1 | refine below_set ?_ GE400.out | refine below_set ?_ GE404.out | refine below_set ?_ GE408.out | refine below_set ?_ GE412.out | refine below_set ?_ GE416.out) | exact HB.out))) : w.heap.size ≤ gb420)); have n9_ := Aside0.mk ((by rw [hg]; exact Nat.ne_of_lt (blk_lt (g := gb400) (o := .cells #[.int .i64 t397, .int .i64 t398] 26 (0, 0)) (by (with_reducible repeat (first | refine blk_drewN ?_ _ | refine blk_drew ?_ | refine blk_alloc ?_ _)); exact BK400.out)) : gb400 ≠ gb420)); have n10_ := Aside0.mk ((by rw [hg]; exact Nat.ne_of_gt (blk_lt (g := gb400) (o := .cells #[.int .i64 t397, .int .i64 t398] 26 (0, 0)) (by (with_reducible repeat (first | refine blk_drewN ?_ _ | refine blk_drew ?_ | refine blk_alloc ?_ _)); exact BK400.out)) : gb420 ≠ gb400)); have n11_ := Aside0.mk ((by rw [hg]; exact Nat.ne_of_lt (blk_lt (g := gb404) (o := .cells #[.int .i64 t401, .int .i64 t402] 26 (0, 0)) (by (with_reducible repeat (first | refine blk_drewN ?_ _ | refine blk_drew ?_ | refine blk_alloc ?_ _)); exact BK404.out)) : gb404 ≠ gb420)); have n12_ := Aside0.mk ((by rw [hg]; exact Nat.ne_of_gt (blk_lt (g := gb404) (o := .cells #[.int .i64 t401, .int .i64 t402] 26 (0, 0)) (by (with_reducible repeat (first | refine blk_drewN ?_ _ | refine blk_drew ?_ | refine blk_alloc ?_ _)); exact BK404.out)) : gb420 ≠ gb404)); have n13_ := Aside0.mk ((by rw [hg]; exact Nat.ne_of_lt (blk_lt (g := gb408) (o := .cells #[.int .i64 t405, .int .i64 t406] 26 (0, 0)) (by (with_reducible repeat (first | refine blk_drewN ?_ _ | refine blk_drew ?_ | refine blk_alloc ?_ _)); exact BK408.out)) : gb408 ≠ gb420)); have n14_ := Aside0.mk ((by rw [hg]; exact Nat.ne_of_gt (blk_lt (g := gb408) (o := .cells #[.int .i64 t405, .int .i64 t406] 26 (0, 0)) (by (with_reducible repeat (first | refine blk_drewN ?_ _ | refine blk_drew ?_ | refine blk_alloc ?_ _)); exact BK408.out)) : gb420 ≠ gb408)); have n15_ := Aside0.mk ((by rw [hg]; exact Nat.ne_of_lt (blk_lt (g := gb412) (o := .cells #[.int .i64 t409, .int .i64 t410] 26 (0, 0)) (by (with_reducible repeat (first | refine blk_drewN ?_ _ | refine blk_drew ?_ | refine blk_alloc ?_ _)); exact BK412.out)) : gb412 ≠ gb420)); have n16_ := Aside0.mk ((by rw [hg]; exact Nat.ne_of_gt (blk_lt (g := gb412) (o := .cells #[.int .i64 t409, .int .i64 t410] 26 (0, 0)) (by (with_reducible repeat (first | refine blk_drewN ?_ _ | refine blk_drew ?_ | refine blk_alloc ?_ _)); exact BK412.out)) : gb420 ≠ gb412)); have n17_ := Aside0.mk ((by rw [hg]; exact Nat.ne_of_lt (blk_lt (g := gb416) (o := .cells #[.int .i64 t413, .int .i64 t414] 26 (0, 0)) (by (with_reducible repeat (first | refine blk_drewN ?_ _ | refine blk_drew ?_ | refine blk_alloc ?_ _)); exact BK416.out)) : gb416 ≠ gb420)); have n18_ := Aside0.mk ((by rw [hg]; exact Nat.ne_of_gt (blk_lt (g := gb416) (o := .cells #[.int .i64 t413, .int .i64 t414] 26 (0, 0)) (by (with_reducible repeat (first | refine blk_drewN ?_ _ | refine blk_drew ?_ | refine blk_alloc ?_ _)); exact BK416.out)) : gb420 ≠ gb416)); clear BK400; clear BK404; clear BK408; clear BK412; clear BK416; clear HB; have BK400 := n0_; have BK404 := n1_; have BK408 := n2_; have BK412 := n3_; have BK416 := n4_; have HB := n5_; have BK420 := n6_; have GW420 := n7_; have GE420 := n8_; have NB400_420 := n9_; have NB420_400 := n10_; have NB404_420 := n11_; have NB420_404 := n12_; have NB408_420 := n13_; have NB420_408 := n14_; have NB412_420 := n15_; have NB420_412 := n16_; have NB416_420 := n17_; have NB420_416 := n18_; clear n0_ n1_ n2_ n3_ n4_ n5_ n6_ n7_ n8_ n9_ n10_ n11_ n12_ n13_ n14_ n15_ n16_ n17_ n18_; clear hb hbox hg; have hnb39 := NB420_400.out; have hnc39 := NB400_420.out; have hnb40 := NB420_404.out; have hnc40 := NB404_420.out; have hnb41 := NB420_408.out; have hnc41 := NB408_420.out; have hnb42 := NB420_412.out; have hnc42 := NB412_420.out; have hnb43 := NB420_416.out; have hnc43 := NB416_420.out; have hcz44_0 : w38.cell? ⟨gb420, 0, none⟩ = some (.int .i64 0) := (blk_cell BK420.out 0).trans rfl; have hcz44_1 : w38.cell? ⟨gb420, 1, none⟩ = some (.int .i64 0) := (blk_cell BK420.out 1).trans rfl; have hfz44_0 := blk_frozen BK420.out 0; have hfz44_1 := blk_frozen BK420.out 1) | ((with_reducible refine gate_callee (f := 18) rfl ?_); refine goesL_ (some 52) rfl rfl Try.func18 (by kernel_rfl) rfl #[.agg #[.int .i64 9223372036854775807, .int .i64 1], .agg #[.int .i64 2, .int .i64 1]] rfl (by (try simp only [List.map_toArray, List.map_cons, List.map_nil]); first | done | rfl | (simp only [List.length_drop, List.length_take]; rfl)) ?_; (with_reducible refine (ratio_Mul.calls k 9223372036854775807 1 2 1 t421 t422 t423 _ A9.out).mono ?_); rintro e w45 ⟨rfl, hb⟩; refine ⟨_, rfl, ?_⟩; have n0_ := Aside0.mk (blk_below (g := gb400) (o := .cells #[.int .i64 t397, .int .i64 t398] 26 (0, 0)) (by (with_reducible repeat (first | refine blk_drewN ?_ _ | refine blk_drew ?_ | refine blk_alloc ?_ _)); refine blk_far ?_ NB400_420.out _; (with_reducible repeat (first | refine blk_drewN ?_ _ | refine blk_drew ?_ | refine blk_alloc ?_ _)); refine blk_far ?_ NB400_420.out _; (with_reducible repeat (first | refine blk_drewN ?_ _ | refine blk_drew ?_ | refine blk_alloc ?_ _)); exact BK400.out) hb); have n1_ := Aside0.mk (blk_below (g := gb404) (o := .cells #[.int .i64 t401, .int .i64 t402] 26 (0, 0)) (by (with_reducible repeat (first | refine blk_drewN ?_ _ | refine blk_drew ?_ | refine blk_alloc ?_ _)); refine blk_far ?_ NB404_420.out _; (with_reducible repeat (first | refine blk_drewN ?_ _ | refine blk_drew ?_ | refine blk_alloc ?_ _)); refine blk_far ?_ NB404_420.out _; (with_reducible repeat (first | refine blk_drewN ?_ _ | refine blk_drew ?_ | refine blk_alloc ?_ _)); exact BK404.out) hb); have n2_ := Aside0.mk (blk_below (g := gb408) (o := .cells #[.int .i64 t405, .int .i64 t406] 26 (0, 0)) (by (with_reducible repeat (first | refine blk_drewN ?_ _ | refine blk_drew ?_ | refine blk_alloc ?_ _)); refine blk_far ?_ NB408_420.out _; (with_reducible repeat (first | refine blk_drewN ?_ _ | refine blk_drew ?_ | refine blk_alloc ?_ _)); refine blk_far ?_ NB408_420.out _; (with_reducible repeat (first | refine blk_drewN ?_ _ | refine blk_drew ?_ | refine blk_alloc ?_ _)); exact BK408.out) hb); have n3_ := Aside0.mk (blk_below (g := gb412) (o := .cells #[.int .i64 t409, .int .i64 t410] 26 (0, 0)) (by (with_reducible repeat (first | refine blk_drewN ?_ _ | refine blk_drew ?_ | refine blk_alloc ?_ _)); refine blk_far ?_ NB412_420.out _; (with_reducible repeat (first | refine blk_drewN ?_ _ | refine blk_drew ?_ | refine blk_alloc ?_ _)); refine blk_far ?_ NB412_420.out _; (with_reducible repeat (first | refine blk_drewN ?_ _ | refine blk_drew ?_ | refine blk_alloc ?_ _)); exact BK412.out) hb); have n4_ := Aside0.mk (blk_below (g := gb416) (o := .cells #[.int .i64 t413, .int .i64 t414] 26 (0, 0)) (by (with_reducible repeat (first | refine blk_drewN ?_ _ | refine blk_drew ?_ | refine blk_alloc ?_ _)); refine blk_far ?_ NB416_420.out _; (with_reducible repeat (first | refine blk_drewN ?_ _ | refine blk_drew ?_ | refine blk_alloc ?_ _)); refine blk_far ?_ NB416_420.out _; (with_reducible repeat (first | refine blk_drewN ?_ _ | refine blk_drew ?_ | refine blk_alloc ?_ _)); exact BK416.out) hb); have n5_ := Aside0.mk (blk_below (g := gb420) (o := .cells #[.int .i64 t417, .int .i64 t418] 26 (0, 0)) (by (with_reducible repeat (first | refine blk_drewN ?_ _ | refine blk_drew ?_ | refine blk_alloc ?_ _)); refine blk_put (cs := #[.int .i64 t417, .int .i64 0]) ?_ 1 _ rfl; (with_reducible repeat (first | refine blk_drewN ?_ _ | refine blk_drew ?_ | refine blk_alloc ?_ _)); refine blk_put (cs := #[.int .i64 0, .int .i64 0]) ?_ 0 _ rfl; (with_reducible repeat (first | refine blk_drewN ?_ _ | refine blk_drew ?_ | refine blk_alloc ?_ _)); exact BK420.out) hb); have n6_ := Aside0.mk (below_step (by repeat (first | (with_reducible first | exact HB.out | apply below_alloc | apply pw_below_drewN | apply below_drew1 | refine below_set ?_ GE400.out | refine below_set ?_ GE404.out | refine below_set ?_ GE408.out | refine below_set ?_ GE412.out | refine below_set ?_ GE416.out | refine below_set ?_ GE420.out) | exact HB.out)) hb); clear BK400; clear BK404; clear BK408; clear BK412; clear BK416; clear BK420; clear HB; have BK400 := n0_; have BK404 := n1_; have BK408 := n2_; have BK412 := n3_; have BK416 := n4_; have BK420 := n5_; have HB := n6_; clear n0_ n1_ n2_ n3_ n4_ n5_ n6_; (try clear hb); (try clear hb2); (try clear hk); (try clear hi)) | ((with_reducible refine gate_dst (N := 13) rfl ?_); refine box_event ?hg (N := 13) ?hd (cs := #[.int .i64 0, .int .i64 0]) (t := 26) ?hr ?_; (case hd => rfl); (case hg => rfl); (case hr => first | (go_simp; done) | (go_simp; rfl)); intro gb424 hg w46 hbox hb; have n0_ := Aside0.mk (blk_below (g := gb400) (o := .cells #[.int .i64 t397, .int .i64 t398] 26 (0, 0)) (by (with_reducible repeat (first | refine blk_drewN ?_ _ | refine blk_drew ?_ | refine blk_alloc ?_ _)); exact BK400.out) hb); have n1_ := Aside0.mk (blk_below (g := gb404) (o := .cells #[.int .i64 t401, .int .i64 t402] 26 (0, 0)) (by (with_reducible repeat (first | refine blk_drewN ?_ _ | refine blk_drew ?_ | refine blk_alloc ?_ _)); exact BK404.out) hb); have n2_ := Aside0.mk (blk_below (g := gb408) (o := .cells #[.int .i64 t405, .int .i64 t406] 26 (0, 0)) (by (with_reducible repeat (first | refine blk_drewN ?_ _ | refine blk_drew ?_ | refine blk_alloc ?_ _)); exact BK408.out) hb); have n3_ := Aside0.mk (blk_below (g := gb412) (o := .cells #[.int .i64 t409, .int .i64 t410] 26 (0, 0)) (by (with_reducible repeat (first | refine blk_drewN ?_ _ | refine blk_drew ?_ | refine blk_alloc ?_ _)); exact BK412.out) hb); have n4_ := Aside0.mk (blk_below (g := gb416) (o := .cells #[.int .i64 t413, .int .i64 t414] 26 (0, 0)) (by (with_reducible repeat (first | refine blk_drewN ?_ _ | refine blk_drew ?_ | refine blk_alloc ?_ _)); exact BK416.out) hb); have n5_ := Aside0.mk (blk_below (g := gb420) (o := .cells #[.int .i64 t417, .int .i64 t418] 26 (0, 0)) (by (with_reducible repeat (first | refine blk_drewN ?_ _ | refine blk_drew ?_ | refine blk_alloc ?_ _)); exact BK420.out) hb); have n6_ := Aside0.mk (below_step (by repeat (first | (with_reducible first | exact HB.out | apply below_alloc | apply pw_below_drewN | apply below_drew1 | refine below_set ?_ GE400.out | refine below_set ?_ GE404.out | refine below_set ?_ GE408.out | refine below_set ?_ GE412.out | refine below_set ?_ GE416.out | refine below_set ?_ GE420.out) | exact HB.out)) hb); have n7_ := Aside0.mk (hbox); have n8_ := Aside0.mk ((by rw [hg]; exact (below_size (by repeat (first | (with_reducible first | exact HB.out | apply below_alloc | apply pw_below_drewN | apply below_drew1 | refine below_set ?_ GE400.out | refine below_set ?_ GE404.out | refine below_set ?_ GE408.out | refine below_set ?_ GE412.out | refine below_set ?_ GE416.out | refine below_set ?_ GE420.out) | exact HB.out))) : w.heap.size ≤ gb424)); have n9_ := Aside0.mk ((by rw [hg]; exact (below_size (by repeat (first | (with_reducible first | exact HB.out | apply below_alloc | apply pw_below_drewN | apply below_drew1 | refine below_set ?_ GE400.out | refine below_set ?_ GE404.out | refine below_set ?_ GE408.out | refine below_set ?_ GE412.out | refine below_set ?_ GE416.out | refine below_set ?_ GE420.out) | exact HB.out))) : w.heap.size ≤ gb424)); have n10_ := Aside0.mk ((by rw [hg]; exact Nat.ne_of_lt (blk_lt (g := gb400) (o := .cells #[.int .i64 t397, .int .i64 t398] 26 (0, 0)) (by (with_reducible repeat (first | refine blk_drewN ?_ _ | refine blk_drew ?_ | refine blk_alloc ?_ _)); exact BK400.out)) : gb400 ≠ gb424)); have n11_ := Aside0.mk ((by rw [hg]; exact Nat.ne_of_gt (blk_lt (g := gb400) (o := .cells #[.int .i64 t397, .int .i64 t398] 26 (0, 0)) (by (with_reducible repeat (first | refine blk_drewN ?_ _ | refine blk_drew ?_ | refine blk_alloc ?_ _)); exact BK400.out)) : gb424 ≠ gb400)); have n12_ := Aside0.mk ((by rw [hg]; exact Nat.ne_of_lt (blk_lt (g := gb404) (o := .cells #[.int .i64 t401, .int .i64 t402] 26 (0, 0)) (by (with_reducible repeat (first | refine blk_drewN ?_ _ | refine blk_drew ?_ | refine blk_alloc ?_ _)); exact BK404.out)) : gb404 ≠ gb424)); have n13_ := Aside0.mk ((by rw [hg]; exact Nat.ne_of_gt (blk_lt (g := gb404) (o := .cells #[.int .i64 t401, .int .i64 t402] 26 (0, 0)) (by (with_reducible repeat (first | refine blk_drewN ?_ _ | refine blk_drew ?_ | refine blk_alloc ?_ _)); exact BK404.out)) : gb424 ≠ gb404)); have n14_ := Aside0.mk ((by rw [hg]; exact Nat.ne_of_lt (blk_lt (g := gb408) (o := .cells #[.int .i64 t405, .int .i64 t406] 26 (0, 0)) (by (with_reducible repeat (first | refine blk_drewN ?_ _ | refine blk_drew ?_ | refine blk_alloc ?_ _)); exact BK408.out)) : gb408 ≠ gb424)); have n15_ := Aside0.mk ((by rw [hg]; exact Nat.ne_of_gt (blk_lt (g := gb408) (o := .cells #[.int .i64 t405, .int .i64 t406] 26 (0, 0)) (by (with_reducible repeat (first | refine blk_drewN ?_ _ | refine blk_drew ?_ | refine blk_alloc ?_ _)); exact BK408.out)) : gb424 ≠ gb408)); have n16_ := Aside0.mk ((by rw [hg]; exact Nat.ne_of_lt (blk_lt (g := gb412) (o := .cells #[.int .i64 t409, .int .i64 t410] 26 (0, 0)) (by (with_reducible repeat (first | refine blk_drewN ?_ _ | refine blk_drew ?_ | refine blk_alloc ?_ _)); exact BK412.out)) : gb412 ≠ gb424)); have n17_ := Aside0.mk ((by rw [hg]; exact Nat.ne_of_gt (blk_lt (g := gb412) (o := .cells #[.int .i64 t409, .int .i64 t410] 26 (0, 0)) (by (with_reducible repeat (first | refine blk_drewN ?_ _ | refine blk_drew ?_ | refine blk_alloc ?_ _)); exact BK412.out)) : gb424 ≠ gb412)); have n18_ := Aside0.mk ((by rw [hg]; exact Nat.ne_of_lt (blk_lt (g := gb416) (o := .cells #[.int .i64 t413, .int .i64 t414] 26 (0, 0)) (by (with_reducible repeat (first | refine blk_drewN ?_ _ | refine blk_drew ?_ | refine blk_alloc ?_ _)); exact BK416.out)) : gb416 ≠ gb424)); have n19_ := Aside0.mk ((by rw [hg]; exact Nat.ne_of_gt (blk_lt (g := gb416) (o := .cells #[.int .i64 t413, .int .i64 t414] 26 (0, 0)) (by (with_reducible repeat (first | refine blk_drewN ?_ _ | refine blk_drew ?_ | refine blk_alloc ?_ _)); exact BK416.out)) : gb424 ≠ gb416)); have n20_ := Aside0.mk ((by rw [hg]; exact Nat.ne_of_lt (blk_lt (g := gb420) (o := .cells #[.int .i64 t417, .int .i64 t418] 26 (0, 0)) (by (with_reducible repeat (first | refine blk_drewN ?_ _ | refine blk_drew ?_ | refine blk_alloc ?_ _)); exact BK420.out)) : gb420 ≠ gb424)); have n21_ := Aside0.mk ((by rw [hg]; exact Nat.ne_of_gt (blk_lt (g := gb420) (o := .cells #[.int .i64 t417, .int .i64 t418] 26 (0, 0)) (by (with_reducible repeat (first | refine blk_drewN ?_ _ | refine blk_drew ?_ | refine blk_alloc ?_ _)); exact BK420.out)) : gb424 ≠ gb420)); clear BK400; clear BK404; clear BK408; clear BK412; clear BK416; clear BK420; clear HB; have BK400 := n0_; have BK404 := n1_; have BK408 := n2_; have BK412 := n3_; have BK416 := n4_; have BK420 := n5_; have HB := n6_; have BK424 := n7_; have GW424 := n8_; have GE424 := n9_; have NB400_424 := n10_; have NB424_400 := n11_; have NB404_424 := n12_; have NB424_404 := n13_; have NB408_424 := n14_; have NB424_408 := n15_; have NB412_424 := n16_; have NB424_412 := n17_; have NB416_424 := n18_; have NB424_416 := n19_; have NB420_424 := n20_; have NB424_420 := n21_; clear n0_ n1_ n2_ n3_ n4_ n5_ n6_ n7_ n8_ n9_ n10_ n11_ n12_ n13_ n14_ n15_ n16_ n17_ n18_ n19_ n20_ n21_; clear hb hbox hg; have hnb47 := NB424_400.out; have hnc47 := NB400_424.out; have hnb48 := NB424_404.out; have hnc48 := NB404_424.out; have hnb49 := NB424_408.out; have hnc49 := NB408_424.out; have hnb50 := NB424_412.out; have hnc50 := NB412_424.out; have hnb51 := NB424_416.out; have hnc51 := NB416_424.out; have hnb52 := NB424_420.out; have hnc52 := NB420_424.out; have hcz53_0 : w46.cell? ⟨gb424, 0, none⟩ = some (.int .i64 0) := (blk_cell BK424.out 0).trans rfl; have hcz53_1 : w46.cell? ⟨gb424, 1, none⟩ = some (.int .i64 0) := (blk_cell BK424.out 1).trans rfl; have hfz53_0 := blk_frozen BK424.out 0; have hfz53_1 := blk_frozen BK424.out 1) | ((with_reducible refine gate_callee (f := 18) rfl ?_); refine goesL_ (some 58) rfl rfl Try.func18 (by kernel_rfl) rfl #[.agg #[.int .i64 9223372036854775807, .int .i64 2], .agg #[.int .i64 2, .int .i64 9223372036854775807]] rfl (by (try simp only [List.map_toArray, List.map_cons, List.map_nil]); first | done | rfl | (simp only [List.length_drop, List.length_take]; rfl)) ?_; (with_reducible refine (ratio_Mul.calls k 9223372036854775807 2 2 9223372036854775807 t425 t426 t427 _ A10.out).mono ?_); rintro e w54 ⟨rfl, hb⟩; refine ⟨_, rfl, ?_⟩; have n0_ := Aside0.mk (blk_below (g := gb400) (o := .cells #[.int .i64 t397, .int .i64 t398] 26 (0, 0)) (by (with_reducible repeat (first | refine blk_drewN ?_ _ | refine blk_drew ?_ | refine blk_alloc ?_ _)); refine blk_far ?_ NB400_424.out _; (with_reducible repeat (first | refine blk_drewN ?_ _ | refine blk_drew ?_ | refine blk_alloc ?_ _)); refine blk_far ?_ NB400_424.out _; (with_reducible repeat (first | refine blk_drewN ?_ _ | refine blk_drew ?_ | refine blk_alloc ?_ _)); exact BK400.out) hb); have n1_ := Aside0.mk (blk_below (g := gb404) (o := .cells #[.int .i64 t401, .int .i64 t402] 26 (0, 0)) (by (with_reducible repeat (first | refine blk_drewN ?_ _ | refine blk_drew ?_ | refine blk_alloc ?_ _)); refine blk_far ?_ NB404_424.out _; (with_reducible repeat (first | refine blk_drewN ?_ _ | refine blk_drew ?_ | refine blk_alloc ?_ _)); refine blk_far ?_ NB404_424.out _; (with_reducible repeat (first | refine blk_drewN ?_ _ | refine blk_drew ?_ | refine blk_alloc ?_ _)); exact BK404.out) hb); have n2_ := Aside0.mk (blk_below (g := gb408) (o := .cells #[.int .i64 t405, .int .i64 t406] 26 (0, 0)) (by (with_reducible repeat (first | refine blk_drewN ?_ _ | refine blk_drew ?_ | refine blk_alloc ?_ _)); refine blk_far ?_ NB408_424.out _; (with_reducible repeat (first | refine blk_drewN ?_ _ | refine blk_drew ?_ | refine blk_alloc ?_ _)); refine blk_far ?_ NB408_424.out _; (with_reducible repeat (first | refine blk_drewN ?_ _ | refine blk_drew ?_ | refine blk_alloc ?_ _)); exact BK408.out) hb); have n3_ := Aside0.mk (blk_below (g := gb412) (o := .cells #[.int .i64 t409, .int .i64 t410] 26 (0, 0)) (by (with_reducible repeat (first | refine blk_drewN ?_ _ | refine blk_drew ?_ | refine blk_alloc ?_ _)); refine blk_far ?_ NB412_424.out _; (with_reducible repeat (first | refine blk_drewN ?_ _ | refine blk_drew ?_ | refine blk_alloc ?_ _)); refine blk_far ?_ NB412_424.out _; (with_reducible repeat (first | refine blk_drewN ?_ _ | refine blk_drew ?_ | refine blk_alloc ?_ _)); exact BK412.out) hb); have n4_ := Aside0.mk (blk_below (g := gb416) (o := .cells #[.int .i64 t413, .int .i64 t414] 26 (0, 0)) (by (with_reducible repeat (first | refine blk_drewN ?_ _ | refine blk_drew ?_ | refine blk_alloc ?_ _)); refine blk_far ?_ NB416_424.out _; (with_reducible repeat (first | refine blk_drewN ?_ _ | refine blk_drew ?_ | refine blk_alloc ?_ _)); refine blk_far ?_ NB416_424.out _; (with_reducible repeat (first | refine blk_drewN ?_ _ | refine blk_drew ?_ | refine blk_alloc ?_ _)); exact BK416.out) hb); have n5_ := Aside0.mk (blk_below (g := gb420) (o := .cells #[.int .i64 t417, .int .i64 t418] 26 (0, 0)) (by (with_reducible repeat (first | refine blk_drewN ?_ _ | refine blk_drew ?_ | refine blk_alloc ?_ _)); refine blk_far ?_ NB420_424.out _; (with_reducible repeat (first | refine blk_drewN ?_ _ | refine blk_drew ?_ | refine blk_alloc ?_ _)); refine blk_far ?_ NB420_424.out _; (with_reducible repeat (first | refine blk_drewN ?_ _ | refine blk_drew ?_ | refine blk_alloc ?_ _)); exact BK420.out) hb); have n6_ := Aside0.mk (blk_below (g := gb424) (o := .cells #[.int .i64 t421, .int .i64 t422] 26 (0, 0)) (by (with_reducible repeat (first | refine blk_drewN ?_ _ | refine blk_drew ?_ | refine blk_alloc ?_ _)); refine blk_put (cs := #[.int .i64 t421, .int .i64 0]) ?_ 1 _ rfl; (with_reducible repeat (first | refine blk_drewN ?_ _ | refine blk_drew ?_ | refine blk_alloc ?_ _)); refine blk_put (cs := #[.int .i64 0, .int .i64 0]) ?_ 0 _ rfl; (with_reducible repeat (first | refine blk_drewN ?_ _ | refine blk_drew ?_ | refine blk_alloc ?_ _)); exact BK424.out) hb); have n7_ := Aside0.mk (below_step (by repeat (first | (with_reducible first | exact HB.out | apply below_alloc | apply pw_below_drewN | apply below_drew1 | refine below_set ?_ GE400.out | refine below_set ?_ GE404.out | refine below_set ?_ GE408.out | refine below_set ?_ GE412.out | refine below_set ?_ GE416.out | refine below_set ?_ GE420.out | refine below_set ?_ GE424.out) | exact HB.out)) hb); clear BK400; clear BK404; clear BK408; clear BK412; clear BK416; clear BK420; clear BK424; clear HB; have BK400 := n0_; have BK404 := n1_; have BK408 := n2_; have BK412 := n3_; have BK416 := n4_; have BK420 := n5_; have BK424 := n6_; have HB := n7_; clear n0_ n1_ n2_ n3_ n4_ n5_ n6_ n7_; (try clear hb); (try clear hb2); (try clear hk); (try clear hi)) | ((with_reducible refine gate_dst (N := 15) rfl ?_); refine box_event ?hg (N := 15) ?hd (cs := #[.int .i64 0, .int .i64 0]) (t := 26) ?hr ?_; (case hd => rfl); (case hg => rfl); (case hr => first | (go_simp; done) | (go_simp; rfl)); intro gb428 hg w55 hbox hb; have n0_ := Aside0.mk (blk_below (g := gb400) (o := .cells #[.int .i64 t397, .int .i64 t398] 26 (0, 0)) (by (with_reducible repeat (first | refine blk_drewN ?_ _ | refine blk_drew ?_ | refine blk_alloc ?_ _)); exact BK400.out) hb); have n1_ := Aside0.mk (blk_below (g := gb404) (o := .cells #[.int .i64 t401, .int .i64 t402] 26 (0, 0)) (by (with_reducible repeat (first | refine blk_drewN ?_ _ | refine blk_drew ?_ | refine blk_alloc ?_ _)); exact BK404.out) hb); have n2_ := Aside0.mk (blk_below (g := gb408) (o := .cells #[.int .i64 t405, .int .i64 t406] 26 (0, 0)) (by (with_reducible repeat (first | refine blk_drewN ?_ _ | refine blk_drew ?_ | refine blk_alloc ?_ _)); exact BK408.out) hb); have n3_ := Aside0.mk (blk_below (g := gb412) (o := .cells #[.int .i64 t409, .int .i64 t410] 26 (0, 0)) (by (with_reducible repeat (first | refine blk_drewN ?_ _ | refine blk_drew ?_ | refine blk_alloc ?_ _)); exact BK412.out) hb); have n4_ := Aside0.mk (blk_below (g := gb416) (o := .cells #[.int .i64 t413, .int .i64 t414] 26 (0, 0)) (by (with_reducible repeat (first | refine blk_drewN ?_ _ | refine blk_drew ?_ | refine blk_alloc ?_ _)); exact BK416.out) hb); have n5_ := Aside0.mk (blk_below (g := gb420) (o := .cells #[.int .i64 t417, .int .i64 t418] 26 (0, 0)) (by (with_reducible repeat (first | refine blk_drewN ?_ _ | refine blk_drew ?_ | refine blk_alloc ?_ _)); exact BK420.out) hb); have n6_ := Aside0.mk (blk_below (g := gb424) (o := .cells #[.int .i64 t421, .int .i64 t422] 26 (0, 0)) (by (with_reducible repeat (first | refine blk_drewN ?_ _ | refine blk_drew ?_ | refine blk_alloc ?_ _)); exact BK424.out) hb); have n7_ := Aside0.mk (below_step (by repeat (first | (with_reducible first | exact HB.out | apply below_alloc | apply pw_below_drewN | apply below_drew1 | refine below_set ?_ GE400.out | refine below_set ?_ GE404.out | refine below_set ?_ GE408.out | refine below_set ?_ GE412.out | refine below_set ?_ GE416.out | refine below_set ?_ GE420.out | refine below_set ?_ GE424.out) | exact HB.out)) hb); have n8_ := Aside0.mk (hbox); have n9_ := Aside0.mk ((by rw [hg]; exact (below_size (by repeat (first | (with_reducible first | exact HB.out | apply below_alloc | apply pw_below_drewN | apply below_drew1 | refine below_set ?_ GE400.out | refine below_set ?_ GE404.out | refine below_set ?_ GE408.out | refine below_set ?_ GE412.out | refine below_set ?_ GE416.out | refine below_set ?_ GE420.out | refine below_set ?_ GE424.out) | exact HB.out))) : w.heap.size ≤ gb428)); have n10_ := Aside0.mk ((by rw [hg]; exact (below_size (by repeat (first | (with_reducible first | exact HB.out | apply below_alloc | apply pw_below_drewN | apply below_drew1 | refine below_set ?_ GE400.out | refine below_set ?_ GE404.out | refine below_set ?_ GE408.out | refine below_set ?_ GE412.out | refine below_set ?_ GE416.out | refine below_set ?_ GE420.out | refine below_set ?_ GE424.out) | exact HB.out))) : w.heap.size ≤ gb428)); have n11_ := Aside0.mk ((by rw [hg]; exact Nat.ne_of_lt (blk_lt (g := gb400) (o := .cells #[.int .i64 t397, .int .i64 t398] 26 (0, 0)) (by (with_reducible repeat (first | refine blk_drewN ?_ _ | refine blk_drew ?_ | refine blk_alloc ?_ _)); exact BK400.out)) : gb400 ≠ gb428)); have n12_ := Aside0.mk ((by rw [hg]; exact Nat.ne_of_gt (blk_lt (g := gb400) (o := .cells #[.int .i64 t397, .int .i64 t398] 26 (0, 0)) (by (with_reducible repeat (first | refine blk_drewN ?_ _ | refine blk_drew ?_ | refine blk_alloc ?_ _)); exact BK400.out)) : gb428 ≠ gb400)); have n13_ := Aside0.mk ((by rw [hg]; exact Nat.ne_of_lt (blk_lt (g := gb404) (o := .cells #[.int .i64 t401, .int .i64 t402] 26 (0, 0)) (by (with_reducible repeat (first | refine blk_drewN ?_ _ | refine blk_drew ?_ | refine blk_alloc ?_ _)); exact BK404.out)) : gb404 ≠ gb428)); have n14_ := Aside0.mk ((by rw [hg]; exact Nat.ne_of_gt (blk_lt (g := gb404) (o := .cells #[.int .i64 t401, .int .i64 t402] 26 (0, 0)) (by (with_reducible repeat (first | refine blk_drewN ?_ _ | refine blk_drew ?_ | refine blk_alloc ?_ _)); exact BK404.out)) : gb428 ≠ gb404)); have n15_ := Aside0.mk ((by rw [hg]; exact Nat.ne_of_lt (blk_lt (g := gb408) (o := .cells #[.int .i64 t405, .int .i64 t406] 26 (0, 0)) (by (with_reducible repeat (first | refine blk_drewN ?_ _ | refine blk_drew ?_ | refine blk_alloc ?_ _)); exact BK408.out)) : gb408 ≠ gb428)); have n16_ := Aside0.mk ((by rw [hg]; exact Nat.ne_of_gt (blk_lt (g := gb408) (o := .cells #[.int .i64 t405, .int .i64 t406] 26 (0, 0)) (by (with_reducible repeat (first | refine blk_drewN ?_ _ | refine blk_drew ?_ | refine blk_alloc ?_ _)); exact BK408.out)) : gb428 ≠ gb408)); have n17_ := Aside0.mk ((by rw [hg]; exact Nat.ne_of_lt (blk_lt (g := gb412) (o := .cells #[.int .i64 t409, .int .i64 t410] 26 (0, 0)) (by (with_reducible repeat (first | refine blk_drewN ?_ _ | refine blk_drew ?_ | refine blk_alloc ?_ _)); exact BK412.out)) : gb412 ≠ gb428)); have n18_ := Aside0.mk ((by rw [hg]; exact Nat.ne_of_gt (blk_lt (g := gb412) (o := .cells #[.int .i64 t409, .int .i64 t410] 26 (0, 0)) (by (with_reducible repeat (first | refine blk_drewN ?_ _ | refine blk_drew ?_ | refine blk_alloc ?_ _)); exact BK412.out)) : gb428 ≠ gb412)); have n19_ := Aside0.mk ((by rw [hg]; exact Nat.ne_of_lt (blk_lt (g := gb416) (o := .cells #[.int .i64 t413, .int .i64 t414] 26 (0, 0)) (by (with_reducible repeat (first | refine blk_drewN ?_ _ | refine blk_drew ?_ | refine blk_alloc ?_ _)); exact BK416.out)) : gb416 ≠ gb428)); have n20_ := Aside0.mk ((by rw [hg]; exact Nat.ne_of_gt (blk_lt (g := gb416) (o := .cells #[.int .i64 t413, .int .i64 t414] 26 (0, 0)) (by (with_reducible repeat (first | refine blk_drewN ?_ _ | refine blk_drew ?_ | refine blk_alloc ?_ _)); exact BK416.out)) : gb428 ≠ gb416)); have n21_ := Aside0.mk ((by rw [hg]; exact Nat.ne_of_lt (blk_lt (g := gb420) (o := .cells #[.int .i64 t417, .int .i64 t418] 26 (0, 0)) (by (with_reducible repeat (first | refine blk_drewN ?_ _ | refine blk_drew ?_ | refine blk_alloc ?_ _)); exact BK420.out)) : gb420 ≠ gb428)); have n22_ := Aside0.mk ((by rw [hg]; exact Nat.ne_of_gt (blk_lt (g := gb420) (o := .cells #[.int .i64 t417, .int .i64 t418] 26 (0, 0)) (by (with_reducible repeat (first | refine blk_drewN ?_ _ | refine blk_drew ?_ | refine blk_alloc ?_ _)); exact BK420.out)) : gb428 ≠ gb420)); have n23_ := Aside0.mk ((by rw [hg]; exact Nat.ne_of_lt (blk_lt (g := gb424) (o := .cells #[.int .i64 t421, .int .i64 t422] 26 (0, 0)) (by (with_reducible repeat (first | refine blk_drewN ?_ _ | refine blk_drew ?_ | refine blk_alloc ?_ _)); exact BK424.out)) : gb424 ≠ gb428)); have n24_ := Aside0.mk ((by rw [hg]; exact Nat.ne_of_gt (blk_lt (g := gb424) (o := .cells #[.int .i64 t421, .int .i64 t422] 26 (0, 0)) (by (with_reducible repeat (first | refine blk_drewN ?_ _ | refine blk_drew ?_ | refine blk_alloc ?_ _)); exact BK424.out)) : gb428 ≠ gb424)); clear BK400; clear BK404; clear BK408; clear BK412; clear BK416; clear BK420; clear BK424; clear HB; have BK400 := n0_; have BK404 := n1_; have BK408 := n2_; have BK412 := n3_; have BK416 := n4_; have BK420 := n5_; have BK424 := n6_; have HB := n7_; have BK428 := n8_; have GW428 := n9_; have GE428 := n10_; have NB400_428 := n11_; have NB428_400 := n12_; have NB404_428 := n13_; have NB428_404 := n14_; have NB408_428 := n15_; have NB428_408 := n16_; have NB412_428 := n17_; have NB428_412 := n18_; have NB416_428 := n19_; have NB428_416 := n20_; have NB420_428 := n21_; have NB428_420 := n22_; have NB424_428 := n23_; have NB428_424 := n24_; clear n0_ n1_ n2_ n3_ n4_ n5_ n6_ n7_ n8_ n9_ n10_ n11_ n12_ n13_ n14_ n15_ n16_ n17_ n18_ n19_ n20_ n21_ n22_ n23_ n24_; clear hb hbox hg; have hnb56 := NB428_400.out; have hnc56 := NB400_428.out; have hnb57 := NB428_404.out; have hnc57 := NB404_428.out; have hnb58 := NB428_408.out; have hnc58 := NB408_428.out; have hnb59 := NB428_412.out; have hnc59 := NB412_428.out; have hnb60 := NB428_416.out; have hnc60 := NB416_428.out; have hnb61 := NB428_420.out; have hnc61 := NB420_428.out; have hnb62 := NB428_424.out; have hnc62 := NB424_428.out; have hcz63_0 : w55.cell? ⟨gb428, 0, none⟩ = some (.int .i64 0) := (blk_cell BK428.out 0).trans rfl; have hcz63_1 : w55.cell? ⟨gb428, 1, none⟩ = some (.int .i64 0) := (blk_cell BK428.out 1).trans rfl; have hfz63_0 := blk_frozen BK428.out 0; have hfz63_1 := blk_frozen BK428.out 1) | ((with_reducible refine gate_dst (N := 66) rfl ?_); refine Kd.R_lit k26 _ 26 ?hg (N := 66) ?hd (xs := ([(⟨0, 0⟩ : S26), (⟨1, 0⟩ : S26), (⟨2, 4⟩ : S26), (⟨0, 2⟩ : S26), (⟨1, (-1)⟩ : S26)] : List (S26))) (inner := [.int .i64 0, .int .i64 0, .int .i64 1, .int .i64 0, .int .i64 2, .int .i64 4, .int .i64 0, .int .i64 2, .int .i64 1, .int .i64 (-1)]) (ok := fun _ => True) (okp := fun _ => True) ?hr ?hp (fun _ hk => hk) trivial (Below.refl _ _) (Nat.le_refl _) (by simp) ?_; (case hd => rfl); (case hg => rfl); (case hr => first | (go_simp; done) | (go_simp; rfl)); (case hp => exact (Reps.c2 (show Kd.M k26 _ _ _ (⟨0, 0⟩ : S26) [.int .i64 0, .int .i64 0] from (k26_mkM _ _ _ (⟨0, 0⟩ : S26) )) (Reps.c2 (show Kd.M k26 _ _ _ (⟨1, 0⟩ : S26) [.int .i64 1, .int .i64 0] from (k26_mkM _ _ _ (⟨1, 0⟩ : S26) )) (Reps.c2 (show Kd.M k26 _ _ _ (⟨2, 4⟩ : S26) [.int .i64 2, .int .i64 4] from (k26_mkM _ _ _ (⟨2, 4⟩ : S26) )) (Reps.c2 (show Kd.M k26 _ _ _ (⟨0, 2⟩ : S26) [.int .i64 0, .int .i64 2] from (k26_mkM _ _ _ (⟨0, 2⟩ : S26) )) (Reps.c2 (show Kd.M k26 _ _ _ (⟨1, (-1)⟩ : S26) [.int .i64 1, .int .i64 (-1)] from (k26_mkM _ _ _ (⟨1, (-1)⟩ : S26) )) (Reps.none _ _))))))); intro v430 w64 ho65 hb hg_ hnew_; clear hg_ hnew_; (first | rw [← Ny429.out] at ho65 | (simp only [Int.reduceToNat] at ho65; rw [← Ny429.out] at ho65)); have n0_ := Aside0.mk (Kd.R_lower (Kd.R_newB (Kd.R_newB (Kd.R_newB (Kd.R_newB (Kd.R_newB (Kd.R_newB (Kd.R_newB (Kd.R_newB ho65 (g := gb400) (o := .cells #[.int .i64 t397, .int .i64 t398] 26 (0, 0)) (by (with_reducible repeat (first | refine blk_drewN ?_ _ | refine blk_drew ?_ | refine blk_alloc ?_ _)); refine blk_far ?_ NB400_428.out _; (with_reducible repeat (first | refine blk_drewN ?_ _ | refine blk_drew ?_ | refine blk_alloc ?_ _)); refine blk_far ?_ NB400_428.out _; (with_reducible repeat (first | refine blk_drewN ?_ _ | refine blk_drew ?_ | refine blk_alloc ?_ _)); exact BK400.out)) (g := gb404) (o := .cells #[.int .i64 t401, .int .i64 t402] 26 (0, 0)) (by (with_reducible repeat (first | refine blk_drewN ?_ _ | refine blk_drew ?_ | refine blk_alloc ?_ _)); refine blk_far ?_ NB404_428.out _; (with_reducible repeat (first | refine blk_drewN ?_ _ | refine blk_drew ?_ | refine blk_alloc ?_ _)); refine blk_far ?_ NB404_428.out _; (with_reducible repeat (first | refine blk_drewN ?_ _ | refine blk_drew ?_ | refine blk_alloc ?_ _)); exact BK404.out)) (g := gb408) (o := .cells #[.int .i64 t405, .int .i64 t406] 26 (0, 0)) (by (with_reducible repeat (first | refine blk_drewN ?_ _ | refine blk_drew ?_ | refine blk_alloc ?_ _)); refine blk_far ?_ NB408_428.out _; (with_reducible repeat (first | refine blk_drewN ?_ _ | refine blk_drew ?_ | refine blk_alloc ?_ _)); refine blk_far ?_ NB408_428.out _; (with_reducible repeat (first | refine blk_drewN ?_ _ | refine blk_drew ?_ | refine blk_alloc ?_ _)); exact BK408.out)) (g := gb412) (o := .cells #[.int .i64 t409, .int .i64 t410] 26 (0, 0)) (by (with_reducible repeat (first | refine blk_drewN ?_ _ | refine blk_drew ?_ | refine blk_alloc ?_ _)); refine blk_far ?_ NB412_428.out _; (with_reducible repeat (first | refine blk_drewN ?_ _ | refine blk_drew ?_ | refine blk_alloc ?_ _)); refine blk_far ?_ NB412_428.out _; (with_reducible repeat (first | refine blk_drewN ?_ _ | refine blk_drew ?_ | refine blk_alloc ?_ _)); exact BK412.out)) (g := gb416) (o := .cells #[.int .i64 t413, .int .i64 t414] 26 (0, 0)) (by (with_reducible repeat (first | refine blk_drewN ?_ _ | refine blk_drew ?_ | refine blk_alloc ?_ _)); refine blk_far ?_ NB416_428.out _; (with_reducible repeat (first | refine blk_drewN ?_ _ | refine blk_drew ?_ | refine blk_alloc ?_ _)); refine blk_far ?_ NB416_428.out _; (with_reducible repeat (first | refine blk_drewN ?_ _ | refine blk_drew ?_ | refine blk_alloc ?_ _)); exact BK416.out)) (g := gb420) (o := .cells #[.int .i64 t417, .int .i64 t418] 26 (0, 0)) (by (with_reducible repeat (first | refine blk_drewN ?_ _ | refine blk_drew ?_ | refine blk_alloc ?_ _)); refine blk_far ?_ NB420_428.out _; (with_reducible repeat (first | refine blk_drewN ?_ _ | refine blk_drew ?_ | refine blk_alloc ?_ _)); refine blk_far ?_ NB420_428.out _; (with_reducible repeat (first | refine blk_drewN ?_ _ | refine blk_drew ?_ | refine blk_alloc ?_ _)); exact BK420.out)) (g := gb424) (o := .cells #[.int .i64 t421, .int .i64 t422] 26 (0, 0)) (by (with_reducible repeat (first | refine blk_drewN ?_ _ | refine blk_drew ?_ | refine blk_alloc ?_ _)); refine blk_far ?_ NB424_428.out _; (with_reducible repeat (first | refine blk_drewN ?_ _ | refine blk_drew ?_ | refine blk_alloc ?_ _)); refine blk_far ?_ NB424_428.out _; (with_reducible repeat (first | refine blk_drewN ?_ _ | refine blk_drew ?_ | refine blk_alloc ?_ _)); exact BK424.out)) (g := gb428) (o := .cells #[.int .i64 t425, .int .i64 t426] 26 (0, 0)) (by (with_reducible repeat (first | refine blk_drewN ?_ _ | refine blk_drew ?_ | refine blk_alloc ?_ _)); refine blk_put (cs := #[.int .i64 t425, .int .i64 0]) ?_ 1 _ rfl; (with_reducible repeat (first | refine blk_drewN ?_ _ | refine blk_drew ?_ | refine blk_alloc ?_ _)); refine blk_put (cs := #[.int .i64 0, .int .i64 0]) ?_ 0 _ rfl; (with_reducible repeat (first | refine blk_drewN ?_ _ | refine blk_drew ?_ | refine blk_alloc ?_ _)); exact BK428.out)) (below_size (by repeat (first | (with_reducible first | exact HB.out | apply below_alloc | apply pw_below_drewN | apply below_drew1 | refine below_set ?_ GE400.out | refine below_set ?_ GE404.out | refine below_set ?_ GE408.out | refine below_set ?_ GE412.out | refine below_set ?_ GE416.out | refine below_set ?_ GE420.out | refine below_set ?_ GE424.out | refine below_set ?_ GE428.out) | exact HB.out)))); have n1_ := Aside0.mk (blk_below (g := gb400) (o := .cells #[.int .i64 t397, .int .i64 t398] 26 (0, 0)) (by (with_reducible repeat (first | refine blk_drewN ?_ _ | refine blk_drew ?_ | refine blk_alloc ?_ _)); refine blk_far ?_ NB400_428.out _; (with_reducible repeat (first | refine blk_drewN ?_ _ | refine blk_drew ?_ | refine blk_alloc ?_ _)); refine blk_far ?_ NB400_428.out _; (with_reducible repeat (first | refine blk_drewN ?_ _ | refine blk_drew ?_ | refine blk_alloc ?_ _)); exact BK400.out) hb); have n2_ := Aside0.mk (blk_below (g := gb404) (o := .cells #[.int .i64 t401, .int .i64 t402] 26 (0, 0)) (by (with_reducible repeat (first | refine blk_drewN ?_ _ | refine blk_drew ?_ | refine blk_alloc ?_ _)); refine blk_far ?_ NB404_428.out _; (with_reducible repeat (first | refine blk_drewN ?_ _ | refine blk_drew ?_ | refine blk_alloc ?_ _)); refine blk_far ?_ NB404_428.out _; (with_reducible repeat (first | refine blk_drewN ?_ _ | refine blk_drew ?_ | refine blk_alloc ?_ _)); exact BK404.out) hb); have n3_ := Aside0.mk (blk_below (g := gb408) (o := .cells #[.int .i64 t405, .int .i64 t406] 26 (0, 0)) (by (with_reducible repeat (first | refine blk_drewN ?_ _ | refine blk_drew ?_ | refine blk_alloc ?_ _)); refine blk_far ?_ NB408_428.out _; (with_reducible repeat (first | refine blk_drewN ?_ _ | refine blk_drew ?_ | refine blk_alloc ?_ _)); refine blk_far ?_ NB408_428.out _; (with_reducible repeat (first | refine blk_drewN ?_ _ | refine blk_drew ?_ | refine blk_alloc ?_ _)); exact BK408.out) hb); have n4_ := Aside0.mk (blk_below (g := gb412) (o := .cells #[.int .i64 t409, .int .i64 t410] 26 (0, 0)) (by (with_reducible repeat (first | refine blk_drewN ?_ _ | refine blk_drew ?_ | refine blk_alloc ?_ _)); refine blk_far ?_ NB412_428.out _; (with_reducible repeat (first | refine blk_drewN ?_ _ | refine blk_drew ?_ | refine blk_alloc ?_ _)); refine blk_far ?_ NB412_428.out _; (with_reducible repeat (first | refine blk_drewN ?_ _ | refine blk_drew ?_ | refine blk_alloc ?_ _)); exact BK412.out) hb); have n5_ := Aside0.mk (blk_below (g := gb416) (o := .cells #[.int .i64 t413, .int .i64 t414] 26 (0, 0)) (by (with_reducible repeat (first | refine blk_drewN ?_ _ | refine blk_drew ?_ | refine blk_alloc ?_ _)); refine blk_far ?_ NB416_428.out _; (with_reducible repeat (first | refine blk_drewN ?_ _ | refine blk_drew ?_ | refine blk_alloc ?_ _)); refine blk_far ?_ NB416_428.out _; (with_reducible repeat (first | refine blk_drewN ?_ _ | refine blk_drew ?_ | refine blk_alloc ?_ _)); exact BK416.out) hb); have n6_ := Aside0.mk (blk_below (g := gb420) (o := .cells #[.int .i64 t417, .int .i64 t418] 26 (0, 0)) (by (with_reducible repeat (first | refine blk_drewN ?_ _ | refine blk_drew ?_ | refine blk_alloc ?_ _)); refine blk_far ?_ NB420_428.out _; (with_reducible repeat (first | refine blk_drewN ?_ _ | refine blk_drew ?_ | refine blk_alloc ?_ _)); refine blk_far ?_ NB420_428.out _; (with_reducible repeat (first | refine blk_drewN ?_ _ | refine blk_drew ?_ | refine blk_alloc ?_ _)); exact BK420.out) hb); have n7_ := Aside0.mk (blk_below (g := gb424) (o := .cells #[.int .i64 t421, .int .i64 t422] 26 (0, 0)) (by (with_reducible repeat (first | refine blk_drewN ?_ _ | refine blk_drew ?_ | refine blk_alloc ?_ _)); refine blk_far ?_ NB424_428.out _; (with_reducible repeat (first | refine blk_drewN ?_ _ | refine blk_drew ?_ | refine blk_alloc ?_ _)); refine blk_far ?_ NB424_428.out _; (with_reducible repeat (first | refine blk_drewN ?_ _ | refine blk_drew ?_ | refine blk_alloc ?_ _)); exact BK424.out) hb); have n8_ := Aside0.mk (blk_below (g := gb428) (o := .cells #[.int .i64 t425, .int .i64 t426] 26 (0, 0)) (by (with_reducible repeat (first | refine blk_drewN ?_ _ | refine blk_drew ?_ | refine blk_alloc ?_ _)); refine blk_put (cs := #[.int .i64 t425, .int .i64 0]) ?_ 1 _ rfl; (with_reducible repeat (first | refine blk_drewN ?_ _ | refine blk_drew ?_ | refine blk_alloc ?_ _)); refine blk_put (cs := #[.int .i64 0, .int .i64 0]) ?_ 0 _ rfl; (with_reducible repeat (first | refine blk_drewN ?_ _ | refine blk_drew ?_ | refine blk_alloc ?_ _)); exact BK428.out) hb); have n9_ := Aside0.mk (below_step (by repeat (first | (with_reducible first | exact HB.out | apply below_alloc | apply pw_below_drewN | apply below_drew1 | refine below_set ?_ GE400.out | refine below_set ?_ GE404.out | refine below_set ?_ GE408.out | refine below_set ?_ GE412.out | refine below_set ?_ GE416.out | refine below_set ?_ GE420.out | refine below_set ?_ GE424.out | refine below_set ?_ GE428.out) | exact HB.out)) hb); clear BK400; clear BK404; clear BK408; clear BK412; clear BK416; clear BK420; clear BK424; clear BK428; clear HB; have HO431 := n0_; have BK400 := n1_; have BK404 := n2_; have BK408 := n3_; have BK412 := n4_; have BK416 := n5_; have BK420 := n6_; have BK424 := n7_; have BK428 := n8_; have HB := n9_; clear n0_ n1_ n2_ n3_ n4_ n5_ n6_ n7_ n8_ n9_; clear hb ho65))
    try simp only [Act.put, List.setIfInBounds_toArray, List.set_cons_succ, List.set_cons_zero]
    go_loopg [18] k (fun kq v18 w' => ∃ (x18_1 : Int), v18 = .int .i64 x18_1 ∧ Aside0 (evenhandedlaw2_RatioKnown.l0 kq t399 t403 t407 t411 t415 t419 t423 t427 y429 x18_1 t401 t402 t409 t410 t417 t418 t425 t426 = some r) ∧ Aside0 (kq ≤ k) ∧ Aside0 (Kd.R k26 26 w' w.heap.size (fun k_ => k_ ≠ gb400 ∧ k_ ≠ gb404 ∧ k_ ≠ gb408 ∧ k_ ≠ gb412 ∧ k_ ≠ gb416 ∧ k_ ≠ gb420 ∧ k_ ≠ gb424 ∧ k_ ≠ gb428) v430 y429) ∧ Aside0 (w'.heap[gb400]? = some (.cells #[.int .i64 t397, .int .i64 t398] 26 (0, 0))) ∧ Aside0 (w'.heap[gb404]? = some (.cells #[.int .i64 t401, .int .i64 t402] 26 (0, 0))) ∧ Aside0 (w'.heap[gb408]? = some (.cells #[.int .i64 t405, .int .i64 t406] 26 (0, 0))) ∧ Aside0 (w'.heap[gb412]? = some (.cells #[.int .i64 t409, .int .i64 t410] 26 (0, 0))) ∧ Aside0 (w'.heap[gb416]? = some (.cells #[.int .i64 t413, .int .i64 t414] 26 (0, 0))) ∧ Aside0 (w'.heap[gb420]? = some (.cells #[.int .i64 t417, .int .i64 t418] 26 (0, 0))) ∧ Aside0 (w'.heap[gb424]? = some (.cells #[.int .i64 t421, .int .i64 t422] 26 (0, 0))) ∧ Aside0 (w'.heap[gb428]? = some (.cells #[.int .i64 t425, .int .i64 t426] 26 (0, 0))) ∧ Aside0 (Below w.heap.size w w'))
    case atStart => exact ⟨(0), (by first | rfl | (simp; done) | (simp [*]; done)), H', ⟨Nat.le_refl _⟩, ⟨by (with_reducible repeat (first | apply Kd.R_alloc | apply Kd.R_drewN | apply Kd.R_drew)); exact Kd.R_mono HO431.out (fun _ hk => ⟨hk.1.1.1.1.1.1.1.2, ⟨hk.1.1.1.1.1.1.2, ⟨hk.1.1.1.1.1.2, ⟨hk.1.1.1.1.2, ⟨hk.1.1.1.2, ⟨hk.1.1.2, ⟨hk.1.2, hk.2⟩⟩⟩⟩⟩⟩⟩)⟩, ⟨by (with_reducible repeat (first | refine blk_drewN ?_ _ | refine blk_drew ?_ | refine blk_alloc ?_ _)); exact BK400.out⟩, ⟨by (with_reducible repeat (first | refine blk_drewN ?_ _ | refine blk_drew ?_ | refine blk_alloc ?_ _)); exact BK404.out⟩, ⟨by (with_reducible repeat (first | refine blk_drewN ?_ _ | refine blk_drew ?_ | refine blk_alloc ?_ _)); exact BK408.out⟩, ⟨by (with_reducible repeat (first | refine blk_drewN ?_ _ | refine blk_drew ?_ | refine blk_alloc ?_ _)); exact BK412.out⟩, ⟨by (with_reducible repeat (first | refine blk_drewN ?_ _ | refine blk_drew ?_ | refine blk_alloc ?_ _)); exact BK416.out⟩, ⟨by (with_reducible repeat (first | refine blk_drewN ?_ _ | refine blk_drew ?_ | refine blk_alloc ?_ _)); exact BK420.out⟩, ⟨by (with_reducible repeat (first | refine blk_drewN ?_ _ | refine blk_drew ?_ | refine blk_alloc ?_ _)); exact BK424.out⟩, ⟨by (with_reducible repeat (first | refine blk_drewN ?_ _ | refine blk_drew ?_ | refine blk_alloc ?_ _)); exact BK428.out⟩, ⟨by repeat (first | (with_reducible first | exact HB.out | apply below_alloc | apply pw_below_drewN | apply below_drew1 | refine below_set ?_ GE400.out | refine below_set ?_ GE404.out | refine below_set ?_ GE408.out | refine below_set ?_ GE412.out | refine below_set ?_ GE416.out | refine below_set ?_ GE420.out | refine below_set ?_ GE424.out | refine below_set ?_ GE428.out) | exact HB.out)⟩⟩
    case round =>
      clear H'
      try clear c1
      try clear c2
      try clear p2
      try clear c3
      try clear c4
      try clear c5
      try clear c6
      try clear c7
      try clear c9
      try clear c10
      try clear c11
      try clear c17
      try clear c18
      try clear c21
      try clear c22
      try clear c26
      try clear c27
      try clear c28
      try clear c32
      try clear c33
      try clear c34
      try clear c35
      try clear c39
      try clear c40
      try clear c41
      try clear c42
      try clear c43
      try clear c47
      try clear c48
      try clear c49
      try clear c50
      try clear c51
      try clear c52
      try clear c56
      try clear c57
      try clear c58
      try clear c59
      try clear c60
      try clear c61
      try clear c62
      try clear hcz14_0
      try clear hcz14_1
      try clear hcz18_0
      try clear hcz18_1
      try clear hcz23_0
      try clear hcz23_1
      try clear hcz29_0
      try clear hcz29_1
      try clear hcz36_0
      try clear hcz36_1
      try clear hcz44_0
      try clear hcz44_1
      try clear hcz53_0
      try clear hcz53_1
      try clear hcz63_0
      try clear hcz63_1
      try clear hfz14_0
      try clear hfz14_1
      try clear hfz18_0
      try clear hfz18_1
      try clear hfz23_0
      try clear hfz23_1
      try clear hfz29_0
      try clear hfz29_1
      try clear hfz36_0
      try clear hfz36_1
      try clear hfz44_0
      try clear hfz44_1
      try clear hfz53_0
      try clear hfz53_1
      try clear hfz63_0
      try clear hfz63_1
      obtain ⟨x18_1, rfl, HA, HK1, HO_17, BK400, BK404, BK408, BK412, BK416, BK420, BK424, BK428, HB⟩ := hrel
      cases gk with
      | zero => exact absurd HA.out (by simp [evenhandedlaw2_RatioKnown.l0])
      | succ k1 =>
        have H := HA.out
        clear HA
        simp only [evenhandedlaw2_RatioKnown.l0] at H
        by_cases c66 : x18_1 < (y429.length : Int)
        · rw [if_pos c66] at H
          have c66b0 : decide (x18_1 < (y429.length : Int)) = true := decide_eq_true c66
          clear c66
          by_cases c67 : 0 ≤ x18_1
          · rw [if_pos c67] at H
            have c67b0 : decide (0 ≤ x18_1) = true := decide_eq_true c67
            clear c67
            replace H := Option.bind_eq_some_iff.mp H
            obtain ⟨t433, A680, H⟩ := H
            replace H : (if t433 = true then (some false) else (evenhandedlaw2_RatioKnown.l0 k1 t399 t403 t407 t411 t415 t419 t423 t427 y429 (wrap64 (x18_1 + 1)) t401 t402 t409 t410 t417 t418 t425 t426)) = some r := H
            have A68 := Aside0.mk A680
            clear A680
            by_cases c69 : t433 = true
            · subst c69
              have H1 : (some false) = some r := by rw [if_pos rfl] at H; exact H
              clear H
              have H := H1
              clear H1
              obtain rfl := Option.some.inj H
              obtain ⟨Ao70, co70, eo70⟩ := Kd.R_slice HO_17.out
              subst eo70
              have p432 : 0 ≤ (x18_1 : Int) := of_decide_eq_true (by first | (with_reducible assumption) | assumption)
              have q432 : x18_1 < (y429.length : Int) := of_decide_eq_true (by first | (with_reducible assumption) | assumption)
              obtain ⟨ad432, e432, hx432_0, hx432_1⟩ := at_T26 (Kd.R_reads' HO_17.out).2.2 x18_1 p432 q432
              cases e432
              replace p432 := eq_true p432
              replace q432 := eq_true q432
              go_wp2_with (first | ((with_reducible refine gate_callee (f := 26) rfl ?_); refine goesL_ (some 77) rfl rfl Try.func26 (by kernel_rfl) rfl #[.agg #[.int .i64 ((rd_T26 y429 x18_1).f0), .int .i64 ((rd_T26 y429 x18_1).f1)]] rfl (by (try simp only [List.map_toArray, List.map_cons, List.map_nil]); first | done | rfl | (simp only [List.length_drop, List.length_take]; rfl)) ?_; (with_reducible refine (ratio_May.calls k1 ((rd_T26 y429 x18_1).f0) ((rd_T26 y429 x18_1).f1) true _ A68.out).mono ?_); rintro e w71 ⟨rfl, hb⟩; refine ⟨_, rfl, ?_⟩; have n0_ := Aside0.mk (Kd.R_below (by (with_reducible repeat (first | apply Kd.R_alloc | apply Kd.R_drewN | apply Kd.R_drew)); exact HO_17.out) hb); have n1_ := Aside0.mk (blk_below (g := gb400) (o := .cells #[.int .i64 t397, .int .i64 t398] 26 (0, 0)) (by (with_reducible repeat (first | refine blk_drewN ?_ _ | refine blk_drew ?_ | refine blk_alloc ?_ _)); exact BK400.out) hb); have n2_ := Aside0.mk (blk_below (g := gb404) (o := .cells #[.int .i64 t401, .int .i64 t402] 26 (0, 0)) (by (with_reducible repeat (first | refine blk_drewN ?_ _ | refine blk_drew ?_ | refine blk_alloc ?_ _)); exact BK404.out) hb); have n3_ := Aside0.mk (blk_below (g := gb408) (o := .cells #[.int .i64 t405, .int .i64 t406] 26 (0, 0)) (by (with_reducible repeat (first | refine blk_drewN ?_ _ | refine blk_drew ?_ | refine blk_alloc ?_ _)); exact BK408.out) hb); have n4_ := Aside0.mk (blk_below (g := gb412) (o := .cells #[.int .i64 t409, .int .i64 t410] 26 (0, 0)) (by (with_reducible repeat (first | refine blk_drewN ?_ _ | refine blk_drew ?_ | refine blk_alloc ?_ _)); exact BK412.out) hb); have n5_ := Aside0.mk (blk_below (g := gb416) (o := .cells #[.int .i64 t413, .int .i64 t414] 26 (0, 0)) (by (with_reducible repeat (first | refine blk_drewN ?_ _ | refine blk_drew ?_ | refine blk_alloc ?_ _)); exact BK416.out) hb); have n6_ := Aside0.mk (blk_below (g := gb420) (o := .cells #[.int .i64 t417, .int .i64 t418] 26 (0, 0)) (by (with_reducible repeat (first | refine blk_drewN ?_ _ | refine blk_drew ?_ | refine blk_alloc ?_ _)); exact BK420.out) hb); have n7_ := Aside0.mk (blk_below (g := gb424) (o := .cells #[.int .i64 t421, .int .i64 t422] 26 (0, 0)) (by (with_reducible repeat (first | refine blk_drewN ?_ _ | refine blk_drew ?_ | refine blk_alloc ?_ _)); exact BK424.out) hb); have n8_ := Aside0.mk (blk_below (g := gb428) (o := .cells #[.int .i64 t425, .int .i64 t426] 26 (0, 0)) (by (with_reducible repeat (first | refine blk_drewN ?_ _ | refine blk_drew ?_ | refine blk_alloc ?_ _)); exact BK428.out) hb); have n9_ := Aside0.mk (below_step (by repeat (first | (with_reducible first | exact HB.out | apply below_alloc | apply pw_below_drewN | apply below_drew1 | refine below_set ?_ GE400.out | refine below_set ?_ GE404.out | refine below_set ?_ GE408.out | refine below_set ?_ GE412.out | refine below_set ?_ GE416.out | refine below_set ?_ GE420.out | refine below_set ?_ GE424.out | refine below_set ?_ GE428.out) | exact HB.out)) hb); clear HO_17; clear BK400; clear BK404; clear BK408; clear BK412; clear BK416; clear BK420; clear BK424; clear BK428; clear HB; have HO_17 := n0_; have BK400 := n1_; have BK404 := n2_; have BK408 := n3_; have BK412 := n4_; have BK416 := n5_; have BK420 := n6_; have BK424 := n7_; have BK428 := n8_; have HB := n9_; clear n0_ n1_ n2_ n3_ n4_ n5_ n6_ n7_ n8_ n9_; (try clear hb); (try clear hb2); (try clear hk); (try clear hi)))
              go_ret
              exact ⟨by first | rfl | (simp [errW_none, errW_some] <;> rfl) | (simp [*, errW_none, errW_some] <;> rfl), by repeat (first | (with_reducible first | exact HB.out | apply below_alloc | apply pw_below_drewN | apply below_drew1 | refine below_set ?_ GE400.out | refine below_set ?_ GE404.out | refine below_set ?_ GE408.out | refine below_set ?_ GE412.out | refine below_set ?_ GE416.out | refine below_set ?_ GE420.out | refine below_set ?_ GE424.out | refine below_set ?_ GE428.out) | exact HB.out)⟩
            · replace c69 := Bool.eq_false_iff.mpr c69
              subst c69
              have H1 : (evenhandedlaw2_RatioKnown.l0 k1 t399 t403 t407 t411 t415 t419 t423 t427 y429 (wrap64 (x18_1 + 1)) t401 t402 t409 t410 t417 t418 t425 t426) = some r := by rw [if_neg (show ¬ (false = true) by decide)] at H; exact H
              clear H
              have H := H1
              clear H1
              have H' := Aside0.mk H
              clear H
              obtain ⟨Ao72, co72, eo72⟩ := Kd.R_slice HO_17.out
              subst eo72
              have p432 : 0 ≤ (x18_1 : Int) := of_decide_eq_true (by first | (with_reducible assumption) | assumption)
              have q432 : x18_1 < (y429.length : Int) := of_decide_eq_true (by first | (with_reducible assumption) | assumption)
              obtain ⟨ad432, e432, hx432_0, hx432_1⟩ := at_T26 (Kd.R_reads' HO_17.out).2.2 x18_1 p432 q432
              cases e432
              replace p432 := eq_true p432
              replace q432 := eq_true q432
              go_wp2_with (first | ((with_reducible refine gate_callee (f := 26) rfl ?_); refine goesL_ (some 77) rfl rfl Try.func26 (by kernel_rfl) rfl #[.agg #[.int .i64 ((rd_T26 y429 x18_1).f0), .int .i64 ((rd_T26 y429 x18_1).f1)]] rfl (by (try simp only [List.map_toArray, List.map_cons, List.map_nil]); first | done | rfl | (simp only [List.length_drop, List.length_take]; rfl)) ?_; (with_reducible refine (ratio_May.calls k1 ((rd_T26 y429 x18_1).f0) ((rd_T26 y429 x18_1).f1) false _ A68.out).mono ?_); rintro e w73 ⟨rfl, hb⟩; refine ⟨_, rfl, ?_⟩; have n0_ := Aside0.mk (Kd.R_below (by (with_reducible repeat (first | apply Kd.R_alloc | apply Kd.R_drewN | apply Kd.R_drew)); exact HO_17.out) hb); have n1_ := Aside0.mk (blk_below (g := gb400) (o := .cells #[.int .i64 t397, .int .i64 t398] 26 (0, 0)) (by (with_reducible repeat (first | refine blk_drewN ?_ _ | refine blk_drew ?_ | refine blk_alloc ?_ _)); exact BK400.out) hb); have n2_ := Aside0.mk (blk_below (g := gb404) (o := .cells #[.int .i64 t401, .int .i64 t402] 26 (0, 0)) (by (with_reducible repeat (first | refine blk_drewN ?_ _ | refine blk_drew ?_ | refine blk_alloc ?_ _)); exact BK404.out) hb); have n3_ := Aside0.mk (blk_below (g := gb408) (o := .cells #[.int .i64 t405, .int .i64 t406] 26 (0, 0)) (by (with_reducible repeat (first | refine blk_drewN ?_ _ | refine blk_drew ?_ | refine blk_alloc ?_ _)); exact BK408.out) hb); have n4_ := Aside0.mk (blk_below (g := gb412) (o := .cells #[.int .i64 t409, .int .i64 t410] 26 (0, 0)) (by (with_reducible repeat (first | refine blk_drewN ?_ _ | refine blk_drew ?_ | refine blk_alloc ?_ _)); exact BK412.out) hb); have n5_ := Aside0.mk (blk_below (g := gb416) (o := .cells #[.int .i64 t413, .int .i64 t414] 26 (0, 0)) (by (with_reducible repeat (first | refine blk_drewN ?_ _ | refine blk_drew ?_ | refine blk_alloc ?_ _)); exact BK416.out) hb); have n6_ := Aside0.mk (blk_below (g := gb420) (o := .cells #[.int .i64 t417, .int .i64 t418] 26 (0, 0)) (by (with_reducible repeat (first | refine blk_drewN ?_ _ | refine blk_drew ?_ | refine blk_alloc ?_ _)); exact BK420.out) hb); have n7_ := Aside0.mk (blk_below (g := gb424) (o := .cells #[.int .i64 t421, .int .i64 t422] 26 (0, 0)) (by (with_reducible repeat (first | refine blk_drewN ?_ _ | refine blk_drew ?_ | refine blk_alloc ?_ _)); exact BK424.out) hb); have n8_ := Aside0.mk (blk_below (g := gb428) (o := .cells #[.int .i64 t425, .int .i64 t426] 26 (0, 0)) (by (with_reducible repeat (first | refine blk_drewN ?_ _ | refine blk_drew ?_ | refine blk_alloc ?_ _)); exact BK428.out) hb); have n9_ := Aside0.mk (below_step (by repeat (first | (with_reducible first | exact HB.out | apply below_alloc | apply pw_below_drewN | apply below_drew1 | refine below_set ?_ GE400.out | refine below_set ?_ GE404.out | refine below_set ?_ GE408.out | refine below_set ?_ GE412.out | refine below_set ?_ GE416.out | refine below_set ?_ GE420.out | refine below_set ?_ GE424.out | refine below_set ?_ GE428.out) | exact HB.out)) hb); clear HO_17; clear BK400; clear BK404; clear BK408; clear BK412; clear BK416; clear BK420; clear BK424; clear BK428; clear HB; have HO_17 := n0_; have BK400 := n1_; have BK404 := n2_; have BK408 := n3_; have BK412 := n4_; have BK416 := n5_; have BK420 := n6_; have BK424 := n7_; have BK428 := n8_; have HB := n9_; clear n0_ n1_ n2_ n3_ n4_ n5_ n6_ n7_ n8_ n9_; (try clear hb); (try clear hb2); (try clear hk); (try clear hi)))
              go_roundg k1
              case measure => have := HK1.out; omega
              case rel => exact ⟨(wrap64 (x18_1 + 1)), (by first | rfl | (simp; done) | (simp [*]; done)), H', ⟨by have := HK1.out; omega⟩, ⟨by (with_reducible repeat (first | apply Kd.R_alloc | apply Kd.R_drewN | apply Kd.R_drew)); exact HO_17.out⟩, ⟨by (with_reducible repeat (first | refine blk_drewN ?_ _ | refine blk_drew ?_ | refine blk_alloc ?_ _)); exact BK400.out⟩, ⟨by (with_reducible repeat (first | refine blk_drewN ?_ _ | refine blk_drew ?_ | refine blk_alloc ?_ _)); exact BK404.out⟩, ⟨by (with_reducible repeat (first | refine blk_drewN ?_ _ | refine blk_drew ?_ | refine blk_alloc ?_ _)); exact BK408.out⟩, ⟨by (with_reducible repeat (first | refine blk_drewN ?_ _ | refine blk_drew ?_ | refine blk_alloc ?_ _)); exact BK412.out⟩, ⟨by (with_reducible repeat (first | refine blk_drewN ?_ _ | refine blk_drew ?_ | refine blk_alloc ?_ _)); exact BK416.out⟩, ⟨by (with_reducible repeat (first | refine blk_drewN ?_ _ | refine blk_drew ?_ | refine blk_alloc ?_ _)); exact BK420.out⟩, ⟨by (with_reducible repeat (first | refine blk_drewN ?_ _ | refine blk_drew ?_ | refine blk_alloc ?_ _)); exact BK424.out⟩, ⟨by (with_reducible repeat (first | refine blk_drewN ?_ _ | refine blk_drew ?_ | refine blk_alloc ?_ _)); exact BK428.out⟩, ⟨by repeat (first | (with_reducible first | exact HB.out | apply below_alloc | apply pw_below_drewN | apply below_drew1 | refine below_set ?_ GE400.out | refine below_set ?_ GE404.out | refine below_set ?_ GE408.out | refine below_set ?_ GE412.out | refine below_set ?_ GE416.out | refine below_set ?_ GE420.out | refine below_set ?_ GE424.out | refine below_set ?_ GE428.out) | exact HB.out)⟩⟩
          · rw [if_neg c67] at H
            exact absurd H (by simp)
        · rw [if_neg c66] at H
          have c66b0 : decide (x18_1 < (y429.length : Int)) = false := decide_eq_false c66
          clear c66
          by_cases c74 : t399 = 2
          · rw [if_pos c74] at H
            have c74b0 : (t399 == 2) = true := beq_iff_eq.mpr c74
            have c74b1 : (t399 != 2) = false := bne_eq_false_iff_eq.mpr c74
            clear c74
            by_cases c75 : t403 = 0
            · rw [if_pos c75] at H
              have c75b0 : (t403 == 0) = true := beq_iff_eq.mpr c75
              have c75b1 : (t403 != 0) = false := bne_eq_false_iff_eq.mpr c75
              clear c75
              by_cases c76 : (t401 == 0 && (t402 == 1)) = true
              · rw [if_pos c76] at H
                have c76b0 : (t401 == 0 && (t402 == 1)) = true := c76
                (try (have c76b1 : decide (t401 = 0 && (t402 == 1)) = true := by simpa using c76))
                (try (have c76b2 : (t401 == 0 && (t402 == 1)) = true := by simpa using c76))
                clear c76
                by_cases c77 : t407 = 14
                · rw [if_pos c77] at H
                  have c77b0 : (t407 == 14) = true := beq_iff_eq.mpr c77
                  have c77b1 : (t407 != 14) = false := bne_eq_false_iff_eq.mpr c77
                  clear c77
                  by_cases c78 : t411 = 0
                  · rw [if_pos c78] at H
                    have c78b0 : (t411 == 0) = true := beq_iff_eq.mpr c78
                    have c78b1 : (t411 != 0) = false := bne_eq_false_iff_eq.mpr c78
                    clear c78
                    by_cases c79 : (t409 == 4611686018427387904 && (t410 == 1)) = true
                    · rw [if_pos c79] at H
                      have c79b0 : (t409 == 4611686018427387904 && (t410 == 1)) = true := c79
                      (try (have c79b1 : decide (t409 = 4611686018427387904 && (t410 == 1)) = true := by simpa using c79))
                      (try (have c79b2 : (t409 == 4611686018427387904 && (t410 == 1)) = true := by simpa using c79))
                      clear c79
                      by_cases c80 : t415 = 14
                      · rw [if_pos c80] at H
                        have c80b0 : (t415 == 14) = true := beq_iff_eq.mpr c80
                        have c80b1 : (t415 != 14) = false := bne_eq_false_iff_eq.mpr c80
                        clear c80
                        by_cases c81 : t419 = 0
                        · rw [if_pos c81] at H
                          have c81b0 : (t419 == 0) = true := beq_iff_eq.mpr c81
                          have c81b1 : (t419 != 0) = false := bne_eq_false_iff_eq.mpr c81
                          clear c81
                          by_cases c82 : (t417 == 0 && (t418 == 1)) = true
                          · rw [if_pos c82] at H
                            have c82b0 : (t417 == 0 && (t418 == 1)) = true := c82
                            (try (have c82b1 : decide (t417 = 0 && (t418 == 1)) = true := by simpa using c82))
                            (try (have c82b2 : (t417 == 0 && (t418 == 1)) = true := by simpa using c82))
                            clear c82
                            by_cases c83 : t423 = 14
                            · rw [if_pos c83] at H
                              have c83b0 : (t423 == 14) = true := beq_iff_eq.mpr c83
                              have c83b1 : (t423 != 14) = false := bne_eq_false_iff_eq.mpr c83
                              clear c83
                              by_cases c84 : t427 = 0
                              · rw [if_pos c84] at H
                                have c84b0 : (t427 == 0) = true := beq_iff_eq.mpr c84
                                have c84b1 : (t427 != 0) = false := bne_eq_false_iff_eq.mpr c84
                                clear c84
                                by_cases c85 : (t425 == 1 && (t426 == 1)) = true
                                · rw [if_pos c85] at H
                                  have c85b0 : (t425 == 1 && (t426 == 1)) = true := c85
                                  (try (have c85b1 : decide (t425 = 1 && (t426 == 1)) = true := by simpa using c85))
                                  (try (have c85b2 : (t425 == 1 && (t426 == 1)) = true := by simpa using c85))
                                  clear c85
                                  replace H := Option.bind_eq_some_iff.mp H
                                  obtain ⟨t434, A860, H⟩ := H
                                  replace H : (if t434 = (-4) then ((ratio_Ceil.f k1 (-7) 2).bind fun t435 => (if t435 = (-3) then ((ratio_Cmp.f k1 9223372036854775807 9223372036854775806 9223372036854775806 9223372036854775805).bind fun t436 => (some (t436 == (-1)))) else (some false))) else (some false)) = some r := H
                                  have A86 := Aside0.mk A860
                                  clear A860
                                  by_cases c87 : t434 = (-4)
                                  · rw [if_pos c87] at H
                                    have c87b0 : (t434 == (-4)) = true := beq_iff_eq.mpr c87
                                    have c87b1 : (t434 != (-4)) = false := bne_eq_false_iff_eq.mpr c87
                                    clear c87
                                    replace H := Option.bind_eq_some_iff.mp H
                                    obtain ⟨t435, A880, H⟩ := H
                                    replace H : (if t435 = (-3) then ((ratio_Cmp.f k1 9223372036854775807 9223372036854775806 9223372036854775806 9223372036854775805).bind fun t436 => (some (t436 == (-1)))) else (some false)) = some r := H
                                    have A88 := Aside0.mk A880
                                    clear A880
                                    by_cases c89 : t435 = (-3)
                                    · rw [if_pos c89] at H
                                      have c89b0 : (t435 == (-3)) = true := beq_iff_eq.mpr c89
                                      have c89b1 : (t435 != (-3)) = false := bne_eq_false_iff_eq.mpr c89
                                      clear c89
                                      replace H := Option.bind_eq_some_iff.mp H
                                      obtain ⟨t436, A900, H⟩ := H
                                      replace H : (some (t436 == (-1))) = some r := H
                                      have A90 := Aside0.mk A900
                                      clear A900
                                      obtain rfl := Option.some.inj H
                                      obtain ⟨Ao91, co91, eo91⟩ := Kd.R_slice HO_17.out
                                      subst eo91
                                      have hnb92 := NB404_400.out
                                      have hnc92 := NB400_404.out
                                      have hnb93 := NB404_408.out
                                      have hnc93 := NB408_404.out
                                      have hnb94 := NB404_412.out
                                      have hnc94 := NB412_404.out
                                      have hnb95 := NB404_416.out
                                      have hnc95 := NB416_404.out
                                      have hnb96 := NB404_420.out
                                      have hnc96 := NB420_404.out
                                      have hnb97 := NB404_424.out
                                      have hnc97 := NB424_404.out
                                      have hnb98 := NB404_428.out
                                      have hnc98 := NB428_404.out
                                      have hcz99_0 : wr.cell? ⟨gb404, 0, none⟩ = some (.int .i64 t401) := (blk_cell BK404.out 0).trans rfl
                                      have hcz99_1 : wr.cell? ⟨gb404, 1, none⟩ = some (.int .i64 t402) := (blk_cell BK404.out 1).trans rfl
                                      have hfz99_0 := blk_frozen BK404.out 0
                                      have hfz99_1 := blk_frozen BK404.out 1
                                      have hnb100 := NB412_400.out
                                      have hnc100 := NB400_412.out
                                      have hnb101 := NB412_408.out
                                      have hnc101 := NB408_412.out
                                      have hnb102 := NB412_416.out
                                      have hnc102 := NB416_412.out
                                      have hnb103 := NB412_420.out
                                      have hnc103 := NB420_412.out
                                      have hnb104 := NB412_424.out
                                      have hnc104 := NB424_412.out
                                      have hnb105 := NB412_428.out
                                      have hnc105 := NB428_412.out
                                      have hcz106_0 : wr.cell? ⟨gb412, 0, none⟩ = some (.int .i64 t409) := (blk_cell BK412.out 0).trans rfl
                                      have hcz106_1 : wr.cell? ⟨gb412, 1, none⟩ = some (.int .i64 t410) := (blk_cell BK412.out 1).trans rfl
                                      have hfz106_0 := blk_frozen BK412.out 0
                                      have hfz106_1 := blk_frozen BK412.out 1
                                      have hnb107 := NB420_400.out
                                      have hnc107 := NB400_420.out
                                      have hnb108 := NB420_408.out
                                      have hnc108 := NB408_420.out
                                      have hnb109 := NB420_416.out
                                      have hnc109 := NB416_420.out
                                      have hnb110 := NB420_424.out
                                      have hnc110 := NB424_420.out
                                      have hnb111 := NB420_428.out
                                      have hnc111 := NB428_420.out
                                      have hcz112_0 : wr.cell? ⟨gb420, 0, none⟩ = some (.int .i64 t417) := (blk_cell BK420.out 0).trans rfl
                                      have hcz112_1 : wr.cell? ⟨gb420, 1, none⟩ = some (.int .i64 t418) := (blk_cell BK420.out 1).trans rfl
                                      have hfz112_0 := blk_frozen BK420.out 0
                                      have hfz112_1 := blk_frozen BK420.out 1
                                      have hnb113 := NB428_400.out
                                      have hnc113 := NB400_428.out
                                      have hnb114 := NB428_408.out
                                      have hnc114 := NB408_428.out
                                      have hnb115 := NB428_416.out
                                      have hnc115 := NB416_428.out
                                      have hnb116 := NB428_424.out
                                      have hnc116 := NB424_428.out
                                      have hcz117_0 : wr.cell? ⟨gb428, 0, none⟩ = some (.int .i64 t425) := (blk_cell BK428.out 0).trans rfl
                                      have hcz117_1 : wr.cell? ⟨gb428, 1, none⟩ = some (.int .i64 t426) := (blk_cell BK428.out 1).trans rfl
                                      have hfz117_0 := blk_frozen BK428.out 0
                                      have hfz117_1 := blk_frozen BK428.out 1
                                      go_wp2_with (first | (go_at_call 13; (with_reducible refine (ratio_Floor.calls k1 (-7) 2 t434 _ A86.out).mono ?_); rintro e w118 ⟨rfl, hb⟩; have n0_ := Aside0.mk (Kd.R_below (by (with_reducible repeat (first | apply Kd.R_alloc | apply Kd.R_drewN | apply Kd.R_drew)); exact HO_17.out) hb); have n1_ := Aside0.mk (blk_below (g := gb400) (o := .cells #[.int .i64 t397, .int .i64 t398] 26 (0, 0)) (by (with_reducible repeat (first | refine blk_drewN ?_ _ | refine blk_drew ?_ | refine blk_alloc ?_ _)); exact BK400.out) hb); have n2_ := Aside0.mk (blk_below (g := gb404) (o := .cells #[.int .i64 t401, .int .i64 t402] 26 (0, 0)) (by (with_reducible repeat (first | refine blk_drewN ?_ _ | refine blk_drew ?_ | refine blk_alloc ?_ _)); exact BK404.out) hb); have n3_ := Aside0.mk (blk_below (g := gb408) (o := .cells #[.int .i64 t405, .int .i64 t406] 26 (0, 0)) (by (with_reducible repeat (first | refine blk_drewN ?_ _ | refine blk_drew ?_ | refine blk_alloc ?_ _)); exact BK408.out) hb); have n4_ := Aside0.mk (blk_below (g := gb412) (o := .cells #[.int .i64 t409, .int .i64 t410] 26 (0, 0)) (by (with_reducible repeat (first | refine blk_drewN ?_ _ | refine blk_drew ?_ | refine blk_alloc ?_ _)); exact BK412.out) hb); have n5_ := Aside0.mk (blk_below (g := gb416) (o := .cells #[.int .i64 t413, .int .i64 t414] 26 (0, 0)) (by (with_reducible repeat (first | refine blk_drewN ?_ _ | refine blk_drew ?_ | refine blk_alloc ?_ _)); exact BK416.out) hb); have n6_ := Aside0.mk (blk_below (g := gb420) (o := .cells #[.int .i64 t417, .int .i64 t418] 26 (0, 0)) (by (with_reducible repeat (first | refine blk_drewN ?_ _ | refine blk_drew ?_ | refine blk_alloc ?_ _)); exact BK420.out) hb); have n7_ := Aside0.mk (blk_below (g := gb424) (o := .cells #[.int .i64 t421, .int .i64 t422] 26 (0, 0)) (by (with_reducible repeat (first | refine blk_drewN ?_ _ | refine blk_drew ?_ | refine blk_alloc ?_ _)); exact BK424.out) hb); have n8_ := Aside0.mk (blk_below (g := gb428) (o := .cells #[.int .i64 t425, .int .i64 t426] 26 (0, 0)) (by (with_reducible repeat (first | refine blk_drewN ?_ _ | refine blk_drew ?_ | refine blk_alloc ?_ _)); exact BK428.out) hb); have n9_ := Aside0.mk (below_step (by repeat (first | (with_reducible first | exact HB.out | apply below_alloc | apply pw_below_drewN | apply below_drew1 | refine below_set ?_ GE400.out | refine below_set ?_ GE404.out | refine below_set ?_ GE408.out | refine below_set ?_ GE412.out | refine below_set ?_ GE416.out | refine below_set ?_ GE420.out | refine below_set ?_ GE424.out | refine below_set ?_ GE428.out) | exact HB.out)) hb); clear HO_17; clear BK400; clear BK404; clear BK408; clear BK412; clear BK416; clear BK420; clear BK424; clear BK428; clear HB; have HO_17 := n0_; have BK400 := n1_; have BK404 := n2_; have BK408 := n3_; have BK412 := n4_; have BK416 := n5_; have BK420 := n6_; have BK424 := n7_; have BK428 := n8_; have HB := n9_; clear n0_ n1_ n2_ n3_ n4_ n5_ n6_ n7_ n8_ n9_; (try clear hb); (try clear hb2); (try clear hk); (try clear hi)) | (go_at_call 14; (with_reducible refine (ratio_Ceil.calls k1 (-7) 2 t435 _ A88.out).mono ?_); rintro e w119 ⟨rfl, hb⟩; have n0_ := Aside0.mk (Kd.R_below (by (with_reducible repeat (first | apply Kd.R_alloc | apply Kd.R_drewN | apply Kd.R_drew)); exact HO_17.out) hb); have n1_ := Aside0.mk (blk_below (g := gb400) (o := .cells #[.int .i64 t397, .int .i64 t398] 26 (0, 0)) (by (with_reducible repeat (first | refine blk_drewN ?_ _ | refine blk_drew ?_ | refine blk_alloc ?_ _)); exact BK400.out) hb); have n2_ := Aside0.mk (blk_below (g := gb404) (o := .cells #[.int .i64 t401, .int .i64 t402] 26 (0, 0)) (by (with_reducible repeat (first | refine blk_drewN ?_ _ | refine blk_drew ?_ | refine blk_alloc ?_ _)); exact BK404.out) hb); have n3_ := Aside0.mk (blk_below (g := gb408) (o := .cells #[.int .i64 t405, .int .i64 t406] 26 (0, 0)) (by (with_reducible repeat (first | refine blk_drewN ?_ _ | refine blk_drew ?_ | refine blk_alloc ?_ _)); exact BK408.out) hb); have n4_ := Aside0.mk (blk_below (g := gb412) (o := .cells #[.int .i64 t409, .int .i64 t410] 26 (0, 0)) (by (with_reducible repeat (first | refine blk_drewN ?_ _ | refine blk_drew ?_ | refine blk_alloc ?_ _)); exact BK412.out) hb); have n5_ := Aside0.mk (blk_below (g := gb416) (o := .cells #[.int .i64 t413, .int .i64 t414] 26 (0, 0)) (by (with_reducible repeat (first | refine blk_drewN ?_ _ | refine blk_drew ?_ | refine blk_alloc ?_ _)); exact BK416.out) hb); have n6_ := Aside0.mk (blk_below (g := gb420) (o := .cells #[.int .i64 t417, .int .i64 t418] 26 (0, 0)) (by (with_reducible repeat (first | refine blk_drewN ?_ _ | refine blk_drew ?_ | refine blk_alloc ?_ _)); exact BK420.out) hb); have n7_ := Aside0.mk (blk_below (g := gb424) (o := .cells #[.int .i64 t421, .int .i64 t422] 26 (0, 0)) (by (with_reducible repeat (first | refine blk_drewN ?_ _ | refine blk_drew ?_ | refine blk_alloc ?_ _)); exact BK424.out) hb); have n8_ := Aside0.mk (blk_below (g := gb428) (o := .cells #[.int .i64 t425, .int .i64 t426] 26 (0, 0)) (by (with_reducible repeat (first | refine blk_drewN ?_ _ | refine blk_drew ?_ | refine blk_alloc ?_ _)); exact BK428.out) hb); have n9_ := Aside0.mk (below_step (by repeat (first | (with_reducible first | exact HB.out | apply below_alloc | apply pw_below_drewN | apply below_drew1 | refine below_set ?_ GE400.out | refine below_set ?_ GE404.out | refine below_set ?_ GE408.out | refine below_set ?_ GE412.out | refine below_set ?_ GE416.out | refine below_set ?_ GE420.out | refine below_set ?_ GE424.out | refine below_set ?_ GE428.out) | exact HB.out)) hb); clear HO_17; clear BK400; clear BK404; clear BK408; clear BK412; clear BK416; clear BK420; clear BK424; clear BK428; clear HB; have HO_17 := n0_; have BK400 := n1_; have BK404 := n2_; have BK408 := n3_; have BK412 := n4_; have BK416 := n5_; have BK420 := n6_; have BK424 := n7_; have BK428 := n8_; have HB := n9_; clear n0_ n1_ n2_ n3_ n4_ n5_ n6_ n7_ n8_ n9_; (try clear hb); (try clear hb2); (try clear hk); (try clear hi)) | (go_at_call 12; (with_reducible refine (ratio_Cmp.calls k1 9223372036854775807 9223372036854775806 9223372036854775806 9223372036854775805 t436 _ A90.out).mono ?_); rintro e w120 ⟨rfl, hb⟩; have n0_ := Aside0.mk (Kd.R_below (by (with_reducible repeat (first | apply Kd.R_alloc | apply Kd.R_drewN | apply Kd.R_drew)); exact HO_17.out) hb); have n1_ := Aside0.mk (blk_below (g := gb400) (o := .cells #[.int .i64 t397, .int .i64 t398] 26 (0, 0)) (by (with_reducible repeat (first | refine blk_drewN ?_ _ | refine blk_drew ?_ | refine blk_alloc ?_ _)); exact BK400.out) hb); have n2_ := Aside0.mk (blk_below (g := gb404) (o := .cells #[.int .i64 t401, .int .i64 t402] 26 (0, 0)) (by (with_reducible repeat (first | refine blk_drewN ?_ _ | refine blk_drew ?_ | refine blk_alloc ?_ _)); exact BK404.out) hb); have n3_ := Aside0.mk (blk_below (g := gb408) (o := .cells #[.int .i64 t405, .int .i64 t406] 26 (0, 0)) (by (with_reducible repeat (first | refine blk_drewN ?_ _ | refine blk_drew ?_ | refine blk_alloc ?_ _)); exact BK408.out) hb); have n4_ := Aside0.mk (blk_below (g := gb412) (o := .cells #[.int .i64 t409, .int .i64 t410] 26 (0, 0)) (by (with_reducible repeat (first | refine blk_drewN ?_ _ | refine blk_drew ?_ | refine blk_alloc ?_ _)); exact BK412.out) hb); have n5_ := Aside0.mk (blk_below (g := gb416) (o := .cells #[.int .i64 t413, .int .i64 t414] 26 (0, 0)) (by (with_reducible repeat (first | refine blk_drewN ?_ _ | refine blk_drew ?_ | refine blk_alloc ?_ _)); exact BK416.out) hb); have n6_ := Aside0.mk (blk_below (g := gb420) (o := .cells #[.int .i64 t417, .int .i64 t418] 26 (0, 0)) (by (with_reducible repeat (first | refine blk_drewN ?_ _ | refine blk_drew ?_ | refine blk_alloc ?_ _)); exact BK420.out) hb); have n7_ := Aside0.mk (blk_below (g := gb424) (o := .cells #[.int .i64 t421, .int .i64 t422] 26 (0, 0)) (by (with_reducible repeat (first | refine blk_drewN ?_ _ | refine blk_drew ?_ | refine blk_alloc ?_ _)); exact BK424.out) hb); have n8_ := Aside0.mk (blk_below (g := gb428) (o := .cells #[.int .i64 t425, .int .i64 t426] 26 (0, 0)) (by (with_reducible repeat (first | refine blk_drewN ?_ _ | refine blk_drew ?_ | refine blk_alloc ?_ _)); exact BK428.out) hb); have n9_ := Aside0.mk (below_step (by repeat (first | (with_reducible first | exact HB.out | apply below_alloc | apply pw_below_drewN | apply below_drew1 | refine below_set ?_ GE400.out | refine below_set ?_ GE404.out | refine below_set ?_ GE408.out | refine below_set ?_ GE412.out | refine below_set ?_ GE416.out | refine below_set ?_ GE420.out | refine below_set ?_ GE424.out | refine below_set ?_ GE428.out) | exact HB.out)) hb); clear HO_17; clear BK400; clear BK404; clear BK408; clear BK412; clear BK416; clear BK420; clear BK424; clear BK428; clear HB; have HO_17 := n0_; have BK400 := n1_; have BK404 := n2_; have BK408 := n3_; have BK412 := n4_; have BK416 := n5_; have BK420 := n6_; have BK424 := n7_; have BK428 := n8_; have HB := n9_; clear n0_ n1_ n2_ n3_ n4_ n5_ n6_ n7_ n8_ n9_; (try clear hb); (try clear hb2); (try clear hk); (try clear hi)))
                                      go_ret
                                      exact ⟨by first | rfl | (simp [errW_none, errW_some] <;> rfl) | (simp [*, errW_none, errW_some] <;> rfl), by repeat (first | (with_reducible first | exact HB.out | apply below_alloc | apply pw_below_drewN | apply below_drew1 | refine below_set ?_ GE400.out | refine below_set ?_ GE404.out | refine below_set ?_ GE408.out | refine below_set ?_ GE412.out | refine below_set ?_ GE416.out | refine below_set ?_ GE420.out | refine below_set ?_ GE424.out | refine below_set ?_ GE428.out) | exact HB.out)⟩
                                    · rw [if_neg c89] at H
                                      have c89b0 : (t435 == (-3)) = false := beq_eq_false_iff_ne.mpr c89
                                      have c89b1 : (t435 != (-3)) = true := bne_iff_ne.mpr c89
                                      obtain rfl := Option.some.inj H
                                      obtain ⟨Ao121, co121, eo121⟩ := Kd.R_slice HO_17.out
                                      subst eo121
                                      have hnb122 := NB404_400.out
                                      have hnc122 := NB400_404.out
                                      have hnb123 := NB404_408.out
                                      have hnc123 := NB408_404.out
                                      have hnb124 := NB404_412.out
                                      have hnc124 := NB412_404.out
                                      have hnb125 := NB404_416.out
                                      have hnc125 := NB416_404.out
                                      have hnb126 := NB404_420.out
                                      have hnc126 := NB420_404.out
                                      have hnb127 := NB404_424.out
                                      have hnc127 := NB424_404.out
                                      have hnb128 := NB404_428.out
                                      have hnc128 := NB428_404.out
                                      have hcz129_0 : wr.cell? ⟨gb404, 0, none⟩ = some (.int .i64 t401) := (blk_cell BK404.out 0).trans rfl
                                      have hcz129_1 : wr.cell? ⟨gb404, 1, none⟩ = some (.int .i64 t402) := (blk_cell BK404.out 1).trans rfl
                                      have hfz129_0 := blk_frozen BK404.out 0
                                      have hfz129_1 := blk_frozen BK404.out 1
                                      have hnb130 := NB412_400.out
                                      have hnc130 := NB400_412.out
                                      have hnb131 := NB412_408.out
                                      have hnc131 := NB408_412.out
                                      have hnb132 := NB412_416.out
                                      have hnc132 := NB416_412.out
                                      have hnb133 := NB412_420.out
                                      have hnc133 := NB420_412.out
                                      have hnb134 := NB412_424.out
                                      have hnc134 := NB424_412.out
                                      have hnb135 := NB412_428.out
                                      have hnc135 := NB428_412.out
                                      have hcz136_0 : wr.cell? ⟨gb412, 0, none⟩ = some (.int .i64 t409) := (blk_cell BK412.out 0).trans rfl
                                      have hcz136_1 : wr.cell? ⟨gb412, 1, none⟩ = some (.int .i64 t410) := (blk_cell BK412.out 1).trans rfl
                                      have hfz136_0 := blk_frozen BK412.out 0
                                      have hfz136_1 := blk_frozen BK412.out 1
                                      have hnb137 := NB420_400.out
                                      have hnc137 := NB400_420.out
                                      have hnb138 := NB420_408.out
                                      have hnc138 := NB408_420.out
                                      have hnb139 := NB420_416.out
                                      have hnc139 := NB416_420.out
                                      have hnb140 := NB420_424.out
                                      have hnc140 := NB424_420.out
                                      have hnb141 := NB420_428.out
                                      have hnc141 := NB428_420.out
                                      have hcz142_0 : wr.cell? ⟨gb420, 0, none⟩ = some (.int .i64 t417) := (blk_cell BK420.out 0).trans rfl
                                      have hcz142_1 : wr.cell? ⟨gb420, 1, none⟩ = some (.int .i64 t418) := (blk_cell BK420.out 1).trans rfl
                                      have hfz142_0 := blk_frozen BK420.out 0
                                      have hfz142_1 := blk_frozen BK420.out 1
                                      have hnb143 := NB428_400.out
                                      have hnc143 := NB400_428.out
                                      have hnb144 := NB428_408.out
                                      have hnc144 := NB408_428.out
                                      have hnb145 := NB428_416.out
                                      have hnc145 := NB416_428.out
                                      have hnb146 := NB428_424.out
                                      have hnc146 := NB424_428.out
                                      have hcz147_0 : wr.cell? ⟨gb428, 0, none⟩ = some (.int .i64 t425) := (blk_cell BK428.out 0).trans rfl
                                      have hcz147_1 : wr.cell? ⟨gb428, 1, none⟩ = some (.int .i64 t426) := (blk_cell BK428.out 1).trans rfl
                                      have hfz147_0 := blk_frozen BK428.out 0
                                      have hfz147_1 := blk_frozen BK428.out 1
                                      go_wp2_with (first | (go_at_call 13; (with_reducible refine (ratio_Floor.calls k1 (-7) 2 t434 _ A86.out).mono ?_); rintro e w148 ⟨rfl, hb⟩; have n0_ := Aside0.mk (Kd.R_below (by (with_reducible repeat (first | apply Kd.R_alloc | apply Kd.R_drewN | apply Kd.R_drew)); exact HO_17.out) hb); have n1_ := Aside0.mk (blk_below (g := gb400) (o := .cells #[.int .i64 t397, .int .i64 t398] 26 (0, 0)) (by (with_reducible repeat (first | refine blk_drewN ?_ _ | refine blk_drew ?_ | refine blk_alloc ?_ _)); exact BK400.out) hb); have n2_ := Aside0.mk (blk_below (g := gb404) (o := .cells #[.int .i64 t401, .int .i64 t402] 26 (0, 0)) (by (with_reducible repeat (first | refine blk_drewN ?_ _ | refine blk_drew ?_ | refine blk_alloc ?_ _)); exact BK404.out) hb); have n3_ := Aside0.mk (blk_below (g := gb408) (o := .cells #[.int .i64 t405, .int .i64 t406] 26 (0, 0)) (by (with_reducible repeat (first | refine blk_drewN ?_ _ | refine blk_drew ?_ | refine blk_alloc ?_ _)); exact BK408.out) hb); have n4_ := Aside0.mk (blk_below (g := gb412) (o := .cells #[.int .i64 t409, .int .i64 t410] 26 (0, 0)) (by (with_reducible repeat (first | refine blk_drewN ?_ _ | refine blk_drew ?_ | refine blk_alloc ?_ _)); exact BK412.out) hb); have n5_ := Aside0.mk (blk_below (g := gb416) (o := .cells #[.int .i64 t413, .int .i64 t414] 26 (0, 0)) (by (with_reducible repeat (first | refine blk_drewN ?_ _ | refine blk_drew ?_ | refine blk_alloc ?_ _)); exact BK416.out) hb); have n6_ := Aside0.mk (blk_below (g := gb420) (o := .cells #[.int .i64 t417, .int .i64 t418] 26 (0, 0)) (by (with_reducible repeat (first | refine blk_drewN ?_ _ | refine blk_drew ?_ | refine blk_alloc ?_ _)); exact BK420.out) hb); have n7_ := Aside0.mk (blk_below (g := gb424) (o := .cells #[.int .i64 t421, .int .i64 t422] 26 (0, 0)) (by (with_reducible repeat (first | refine blk_drewN ?_ _ | refine blk_drew ?_ | refine blk_alloc ?_ _)); exact BK424.out) hb); have n8_ := Aside0.mk (blk_below (g := gb428) (o := .cells #[.int .i64 t425, .int .i64 t426] 26 (0, 0)) (by (with_reducible repeat (first | refine blk_drewN ?_ _ | refine blk_drew ?_ | refine blk_alloc ?_ _)); exact BK428.out) hb); have n9_ := Aside0.mk (below_step (by repeat (first | (with_reducible first | exact HB.out | apply below_alloc | apply pw_below_drewN | apply below_drew1 | refine below_set ?_ GE400.out | refine below_set ?_ GE404.out | refine below_set ?_ GE408.out | refine below_set ?_ GE412.out | refine below_set ?_ GE416.out | refine below_set ?_ GE420.out | refine below_set ?_ GE424.out | refine below_set ?_ GE428.out) | exact HB.out)) hb); clear HO_17; clear BK400; clear BK404; clear BK408; clear BK412; clear BK416; clear BK420; clear BK424; clear BK428; clear HB; have HO_17 := n0_; have BK400 := n1_; have BK404 := n2_; have BK408 := n3_; have BK412 := n4_; have BK416 := n5_; have BK420 := n6_; have BK424 := n7_; have BK428 := n8_; have HB := n9_; clear n0_ n1_ n2_ n3_ n4_ n5_ n6_ n7_ n8_ n9_; (try clear hb); (try clear hb2); (try clear hk); (try clear hi)) | (go_at_call 14; (with_reducible refine (ratio_Ceil.calls k1 (-7) 2 t435 _ A88.out).mono ?_); rintro e w149 ⟨rfl, hb⟩; have n0_ := Aside0.mk (Kd.R_below (by (with_reducible repeat (first | apply Kd.R_alloc | apply Kd.R_drewN | apply Kd.R_drew)); exact HO_17.out) hb); have n1_ := Aside0.mk (blk_below (g := gb400) (o := .cells #[.int .i64 t397, .int .i64 t398] 26 (0, 0)) (by (with_reducible repeat (first | refine blk_drewN ?_ _ | refine blk_drew ?_ | refine blk_alloc ?_ _)); exact BK400.out) hb); have n2_ := Aside0.mk (blk_below (g := gb404) (o := .cells #[.int .i64 t401, .int .i64 t402] 26 (0, 0)) (by (with_reducible repeat (first | refine blk_drewN ?_ _ | refine blk_drew ?_ | refine blk_alloc ?_ _)); exact BK404.out) hb); have n3_ := Aside0.mk (blk_below (g := gb408) (o := .cells #[.int .i64 t405, .int .i64 t406] 26 (0, 0)) (by (with_reducible repeat (first | refine blk_drewN ?_ _ | refine blk_drew ?_ | refine blk_alloc ?_ _)); exact BK408.out) hb); have n4_ := Aside0.mk (blk_below (g := gb412) (o := .cells #[.int .i64 t409, .int .i64 t410] 26 (0, 0)) (by (with_reducible repeat (first | refine blk_drewN ?_ _ | refine blk_drew ?_ | refine blk_alloc ?_ _)); exact BK412.out) hb); have n5_ := Aside0.mk (blk_below (g := gb416) (o := .cells #[.int .i64 t413, .int .i64 t414] 26 (0, 0)) (by (with_reducible repeat (first | refine blk_drewN ?_ _ | refine blk_drew ?_ | refine blk_alloc ?_ _)); exact BK416.out) hb); have n6_ := Aside0.mk (blk_below (g := gb420) (o := .cells #[.int .i64 t417, .int .i64 t418] 26 (0, 0)) (by (with_reducible repeat (first | refine blk_drewN ?_ _ | refine blk_drew ?_ | refine blk_alloc ?_ _)); exact BK420.out) hb); have n7_ := Aside0.mk (blk_below (g := gb424) (o := .cells #[.int .i64 t421, .int .i64 t422] 26 (0, 0)) (by (with_reducible repeat (first | refine blk_drewN ?_ _ | refine blk_drew ?_ | refine blk_alloc ?_ _)); exact BK424.out) hb); have n8_ := Aside0.mk (blk_below (g := gb428) (o := .cells #[.int .i64 t425, .int .i64 t426] 26 (0, 0)) (by (with_reducible repeat (first | refine blk_drewN ?_ _ | refine blk_drew ?_ | refine blk_alloc ?_ _)); exact BK428.out) hb); have n9_ := Aside0.mk (below_step (by repeat (first | (with_reducible first | exact HB.out | apply below_alloc | apply pw_below_drewN | apply below_drew1 | refine below_set ?_ GE400.out | refine below_set ?_ GE404.out | refine below_set ?_ GE408.out | refine below_set ?_ GE412.out | refine below_set ?_ GE416.out | refine below_set ?_ GE420.out | refine below_set ?_ GE424.out | refine below_set ?_ GE428.out) | exact HB.out)) hb); clear HO_17; clear BK400; clear BK404; clear BK408; clear BK412; clear BK416; clear BK420; clear BK424; clear BK428; clear HB; have HO_17 := n0_; have BK400 := n1_; have BK404 := n2_; have BK408 := n3_; have BK412 := n4_; have BK416 := n5_; have BK420 := n6_; have BK424 := n7_; have BK428 := n8_; have HB := n9_; clear n0_ n1_ n2_ n3_ n4_ n5_ n6_ n7_ n8_ n9_; (try clear hb); (try clear hb2); (try clear hk); (try clear hi)))
                                      go_ret
                                      exact ⟨by first | rfl | (simp [errW_none, errW_some] <;> rfl) | (simp [*, errW_none, errW_some] <;> rfl), by repeat (first | (with_reducible first | exact HB.out | apply below_alloc | apply pw_below_drewN | apply below_drew1 | refine below_set ?_ GE400.out | refine below_set ?_ GE404.out | refine below_set ?_ GE408.out | refine below_set ?_ GE412.out | refine below_set ?_ GE416.out | refine below_set ?_ GE420.out | refine below_set ?_ GE424.out | refine below_set ?_ GE428.out) | exact HB.out)⟩
                                  · rw [if_neg c87] at H
                                    have c87b0 : (t434 == (-4)) = false := beq_eq_false_iff_ne.mpr c87
                                    have c87b1 : (t434 != (-4)) = true := bne_iff_ne.mpr c87
                                    obtain rfl := Option.some.inj H
                                    obtain ⟨Ao150, co150, eo150⟩ := Kd.R_slice HO_17.out
                                    subst eo150
                                    have hnb151 := NB404_400.out
                                    have hnc151 := NB400_404.out
                                    have hnb152 := NB404_408.out
                                    have hnc152 := NB408_404.out
                                    have hnb153 := NB404_412.out
                                    have hnc153 := NB412_404.out
                                    have hnb154 := NB404_416.out
                                    have hnc154 := NB416_404.out
                                    have hnb155 := NB404_420.out
                                    have hnc155 := NB420_404.out
                                    have hnb156 := NB404_424.out
                                    have hnc156 := NB424_404.out
                                    have hnb157 := NB404_428.out
                                    have hnc157 := NB428_404.out
                                    have hcz158_0 : wr.cell? ⟨gb404, 0, none⟩ = some (.int .i64 t401) := (blk_cell BK404.out 0).trans rfl
                                    have hcz158_1 : wr.cell? ⟨gb404, 1, none⟩ = some (.int .i64 t402) := (blk_cell BK404.out 1).trans rfl
                                    have hfz158_0 := blk_frozen BK404.out 0
                                    have hfz158_1 := blk_frozen BK404.out 1
                                    have hnb159 := NB412_400.out
                                    have hnc159 := NB400_412.out
                                    have hnb160 := NB412_408.out
                                    have hnc160 := NB408_412.out
                                    have hnb161 := NB412_416.out
                                    have hnc161 := NB416_412.out
                                    have hnb162 := NB412_420.out
                                    have hnc162 := NB420_412.out
                                    have hnb163 := NB412_424.out
                                    have hnc163 := NB424_412.out
                                    have hnb164 := NB412_428.out
                                    have hnc164 := NB428_412.out
                                    have hcz165_0 : wr.cell? ⟨gb412, 0, none⟩ = some (.int .i64 t409) := (blk_cell BK412.out 0).trans rfl
                                    have hcz165_1 : wr.cell? ⟨gb412, 1, none⟩ = some (.int .i64 t410) := (blk_cell BK412.out 1).trans rfl
                                    have hfz165_0 := blk_frozen BK412.out 0
                                    have hfz165_1 := blk_frozen BK412.out 1
                                    have hnb166 := NB420_400.out
                                    have hnc166 := NB400_420.out
                                    have hnb167 := NB420_408.out
                                    have hnc167 := NB408_420.out
                                    have hnb168 := NB420_416.out
                                    have hnc168 := NB416_420.out
                                    have hnb169 := NB420_424.out
                                    have hnc169 := NB424_420.out
                                    have hnb170 := NB420_428.out
                                    have hnc170 := NB428_420.out
                                    have hcz171_0 : wr.cell? ⟨gb420, 0, none⟩ = some (.int .i64 t417) := (blk_cell BK420.out 0).trans rfl
                                    have hcz171_1 : wr.cell? ⟨gb420, 1, none⟩ = some (.int .i64 t418) := (blk_cell BK420.out 1).trans rfl
                                    have hfz171_0 := blk_frozen BK420.out 0
                                    have hfz171_1 := blk_frozen BK420.out 1
                                    have hnb172 := NB428_400.out
                                    have hnc172 := NB400_428.out
                                    have hnb173 := NB428_408.out
                                    have hnc173 := NB408_428.out
                                    have hnb174 := NB428_416.out
                                    have hnc174 := NB416_428.out
                                    have hnb175 := NB428_424.out
                                    have hnc175 := NB424_428.out
                                    have hcz176_0 : wr.cell? ⟨gb428, 0, none⟩ = some (.int .i64 t425) := (blk_cell BK428.out 0).trans rfl
                                    have hcz176_1 : wr.cell? ⟨gb428, 1, none⟩ = some (.int .i64 t426) := (blk_cell BK428.out 1).trans rfl
                                    have hfz176_0 := blk_frozen BK428.out 0
                                    have hfz176_1 := blk_frozen BK428.out 1
                                    go_wp2_with (first | (go_at_call 13; (with_reducible refine (ratio_Floor.calls k1 (-7) 2 t434 _ A86.out).mono ?_); rintro e w177 ⟨rfl, hb⟩; have n0_ := Aside0.mk (Kd.R_below (by (with_reducible repeat (first | apply Kd.R_alloc | apply Kd.R_drewN | apply Kd.R_drew)); exact HO_17.out) hb); have n1_ := Aside0.mk (blk_below (g := gb400) (o := .cells #[.int .i64 t397, .int .i64 t398] 26 (0, 0)) (by (with_reducible repeat (first | refine blk_drewN ?_ _ | refine blk_drew ?_ | refine blk_alloc ?_ _)); exact BK400.out) hb); have n2_ := Aside0.mk (blk_below (g := gb404) (o := .cells #[.int .i64 t401, .int .i64 t402] 26 (0, 0)) (by (with_reducible repeat (first | refine blk_drewN ?_ _ | refine blk_drew ?_ | refine blk_alloc ?_ _)); exact BK404.out) hb); have n3_ := Aside0.mk (blk_below (g := gb408) (o := .cells #[.int .i64 t405, .int .i64 t406] 26 (0, 0)) (by (with_reducible repeat (first | refine blk_drewN ?_ _ | refine blk_drew ?_ | refine blk_alloc ?_ _)); exact BK408.out) hb); have n4_ := Aside0.mk (blk_below (g := gb412) (o := .cells #[.int .i64 t409, .int .i64 t410] 26 (0, 0)) (by (with_reducible repeat (first | refine blk_drewN ?_ _ | refine blk_drew ?_ | refine blk_alloc ?_ _)); exact BK412.out) hb); have n5_ := Aside0.mk (blk_below (g := gb416) (o := .cells #[.int .i64 t413, .int .i64 t414] 26 (0, 0)) (by (with_reducible repeat (first | refine blk_drewN ?_ _ | refine blk_drew ?_ | refine blk_alloc ?_ _)); exact BK416.out) hb); have n6_ := Aside0.mk (blk_below (g := gb420) (o := .cells #[.int .i64 t417, .int .i64 t418] 26 (0, 0)) (by (with_reducible repeat (first | refine blk_drewN ?_ _ | refine blk_drew ?_ | refine blk_alloc ?_ _)); exact BK420.out) hb); have n7_ := Aside0.mk (blk_below (g := gb424) (o := .cells #[.int .i64 t421, .int .i64 t422] 26 (0, 0)) (by (with_reducible repeat (first | refine blk_drewN ?_ _ | refine blk_drew ?_ | refine blk_alloc ?_ _)); exact BK424.out) hb); have n8_ := Aside0.mk (blk_below (g := gb428) (o := .cells #[.int .i64 t425, .int .i64 t426] 26 (0, 0)) (by (with_reducible repeat (first | refine blk_drewN ?_ _ | refine blk_drew ?_ | refine blk_alloc ?_ _)); exact BK428.out) hb); have n9_ := Aside0.mk (below_step (by repeat (first | (with_reducible first | exact HB.out | apply below_alloc | apply pw_below_drewN | apply below_drew1 | refine below_set ?_ GE400.out | refine below_set ?_ GE404.out | refine below_set ?_ GE408.out | refine below_set ?_ GE412.out | refine below_set ?_ GE416.out | refine below_set ?_ GE420.out | refine below_set ?_ GE424.out | refine below_set ?_ GE428.out) | exact HB.out)) hb); clear HO_17; clear BK400; clear BK404; clear BK408; clear BK412; clear BK416; clear BK420; clear BK424; clear BK428; clear HB; have HO_17 := n0_; have BK400 := n1_; have BK404 := n2_; have BK408 := n3_; have BK412 := n4_; have BK416 := n5_; have BK420 := n6_; have BK424 := n7_; have BK428 := n8_; have HB := n9_; clear n0_ n1_ n2_ n3_ n4_ n5_ n6_ n7_ n8_ n9_; (try clear hb); (try clear hb2); (try clear hk); (try clear hi)))
                                    go_ret
                                    exact ⟨by first | rfl | (simp [errW_none, errW_some] <;> rfl) | (simp [*, errW_none, errW_some] <;> rfl), by repeat (first | (with_reducible first | exact HB.out | apply below_alloc | apply pw_below_drewN | apply below_drew1 | refine below_set ?_ GE400.out | refine below_set ?_ GE404.out | refine below_set ?_ GE408.out | refine below_set ?_ GE412.out | refine below_set ?_ GE416.out | refine below_set ?_ GE420.out | refine below_set ?_ GE424.out | refine below_set ?_ GE428.out) | exact HB.out)⟩
                                · rw [if_neg c85] at H
                                  have c85b0 : (t425 == 1 && (t426 == 1)) = false := by simpa using c85
                                  (try (have c85b1 : decide (t425 = 1 && (t426 == 1)) = false := by simpa using c85))
                                  (try (have c85b2 : (t425 == 1 && (t426 == 1)) = false := by simpa using c85))
                                  (try (have c85b3 : ¬ (t425 = 1 && (t426 == 1)) := by simpa using c85))
                                  clear c85
                                  obtain rfl := Option.some.inj H
                                  obtain ⟨Ao178, co178, eo178⟩ := Kd.R_slice HO_17.out
                                  subst eo178
                                  have hnb179 := NB404_400.out
                                  have hnc179 := NB400_404.out
                                  have hnb180 := NB404_408.out
                                  have hnc180 := NB408_404.out
                                  have hnb181 := NB404_412.out
                                  have hnc181 := NB412_404.out
                                  have hnb182 := NB404_416.out
                                  have hnc182 := NB416_404.out
                                  have hnb183 := NB404_420.out
                                  have hnc183 := NB420_404.out
                                  have hnb184 := NB404_424.out
                                  have hnc184 := NB424_404.out
                                  have hnb185 := NB404_428.out
                                  have hnc185 := NB428_404.out
                                  have hcz186_0 : wr.cell? ⟨gb404, 0, none⟩ = some (.int .i64 t401) := (blk_cell BK404.out 0).trans rfl
                                  have hcz186_1 : wr.cell? ⟨gb404, 1, none⟩ = some (.int .i64 t402) := (blk_cell BK404.out 1).trans rfl
                                  have hfz186_0 := blk_frozen BK404.out 0
                                  have hfz186_1 := blk_frozen BK404.out 1
                                  have hnb187 := NB412_400.out
                                  have hnc187 := NB400_412.out
                                  have hnb188 := NB412_408.out
                                  have hnc188 := NB408_412.out
                                  have hnb189 := NB412_416.out
                                  have hnc189 := NB416_412.out
                                  have hnb190 := NB412_420.out
                                  have hnc190 := NB420_412.out
                                  have hnb191 := NB412_424.out
                                  have hnc191 := NB424_412.out
                                  have hnb192 := NB412_428.out
                                  have hnc192 := NB428_412.out
                                  have hcz193_0 : wr.cell? ⟨gb412, 0, none⟩ = some (.int .i64 t409) := (blk_cell BK412.out 0).trans rfl
                                  have hcz193_1 : wr.cell? ⟨gb412, 1, none⟩ = some (.int .i64 t410) := (blk_cell BK412.out 1).trans rfl
                                  have hfz193_0 := blk_frozen BK412.out 0
                                  have hfz193_1 := blk_frozen BK412.out 1
                                  have hnb194 := NB420_400.out
                                  have hnc194 := NB400_420.out
                                  have hnb195 := NB420_408.out
                                  have hnc195 := NB408_420.out
                                  have hnb196 := NB420_416.out
                                  have hnc196 := NB416_420.out
                                  have hnb197 := NB420_424.out
                                  have hnc197 := NB424_420.out
                                  have hnb198 := NB420_428.out
                                  have hnc198 := NB428_420.out
                                  have hcz199_0 : wr.cell? ⟨gb420, 0, none⟩ = some (.int .i64 t417) := (blk_cell BK420.out 0).trans rfl
                                  have hcz199_1 : wr.cell? ⟨gb420, 1, none⟩ = some (.int .i64 t418) := (blk_cell BK420.out 1).trans rfl
                                  have hfz199_0 := blk_frozen BK420.out 0
                                  have hfz199_1 := blk_frozen BK420.out 1
                                  have hnb200 := NB428_400.out
                                  have hnc200 := NB400_428.out
                                  have hnb201 := NB428_408.out
                                  have hnc201 := NB408_428.out
                                  have hnb202 := NB428_416.out
                                  have hnc202 := NB416_428.out
                                  have hnb203 := NB428_424.out
                                  have hnc203 := NB424_428.out
                                  have hcz204_0 : wr.cell? ⟨gb428, 0, none⟩ = some (.int .i64 t425) := (blk_cell BK428.out 0).trans rfl
                                  have hcz204_1 : wr.cell? ⟨gb428, 1, none⟩ = some (.int .i64 t426) := (blk_cell BK428.out 1).trans rfl
                                  have hfz204_0 := blk_frozen BK428.out 0
                                  have hfz204_1 := blk_frozen BK428.out 1
                                  go_wp2
                                  go_ret
                                  exact ⟨by first | rfl | (simp [errW_none, errW_some] <;> rfl) | (simp [*, errW_none, errW_some] <;> rfl), by repeat (first | (with_reducible first | exact HB.out | apply below_alloc | apply pw_below_drewN | apply below_drew1 | refine below_set ?_ GE400.out | refine below_set ?_ GE404.out | refine below_set ?_ GE408.out | refine below_set ?_ GE412.out | refine below_set ?_ GE416.out | refine below_set ?_ GE420.out | refine below_set ?_ GE424.out | refine below_set ?_ GE428.out) | exact HB.out)⟩
                              · rw [if_neg c84] at H
                                have c84b0 : (t427 == 0) = false := beq_eq_false_iff_ne.mpr c84
                                have c84b1 : (t427 != 0) = true := bne_iff_ne.mpr c84
                                obtain rfl := Option.some.inj H
                                obtain ⟨Ao205, co205, eo205⟩ := Kd.R_slice HO_17.out
                                subst eo205
                                have hnb206 := NB404_400.out
                                have hnc206 := NB400_404.out
                                have hnb207 := NB404_408.out
                                have hnc207 := NB408_404.out
                                have hnb208 := NB404_412.out
                                have hnc208 := NB412_404.out
                                have hnb209 := NB404_416.out
                                have hnc209 := NB416_404.out
                                have hnb210 := NB404_420.out
                                have hnc210 := NB420_404.out
                                have hnb211 := NB404_424.out
                                have hnc211 := NB424_404.out
                                have hnb212 := NB404_428.out
                                have hnc212 := NB428_404.out
                                have hcz213_0 : wr.cell? ⟨gb404, 0, none⟩ = some (.int .i64 t401) := (blk_cell BK404.out 0).trans rfl
                                have hcz213_1 : wr.cell? ⟨gb404, 1, none⟩ = some (.int .i64 t402) := (blk_cell BK404.out 1).trans rfl
                                have hfz213_0 := blk_frozen BK404.out 0
                                have hfz213_1 := blk_frozen BK404.out 1
                                have hnb214 := NB412_400.out
                                have hnc214 := NB400_412.out
                                have hnb215 := NB412_408.out
                                have hnc215 := NB408_412.out
                                have hnb216 := NB412_416.out
                                have hnc216 := NB416_412.out
                                have hnb217 := NB412_420.out
                                have hnc217 := NB420_412.out
                                have hnb218 := NB412_424.out
                                have hnc218 := NB424_412.out
                                have hnb219 := NB412_428.out
                                have hnc219 := NB428_412.out
                                have hcz220_0 : wr.cell? ⟨gb412, 0, none⟩ = some (.int .i64 t409) := (blk_cell BK412.out 0).trans rfl
                                have hcz220_1 : wr.cell? ⟨gb412, 1, none⟩ = some (.int .i64 t410) := (blk_cell BK412.out 1).trans rfl
                                have hfz220_0 := blk_frozen BK412.out 0
                                have hfz220_1 := blk_frozen BK412.out 1
                                have hnb221 := NB420_400.out
                                have hnc221 := NB400_420.out
                                have hnb222 := NB420_408.out
                                have hnc222 := NB408_420.out
                                have hnb223 := NB420_416.out
                                have hnc223 := NB416_420.out
                                have hnb224 := NB420_424.out
                                have hnc224 := NB424_420.out
                                have hnb225 := NB420_428.out
                                have hnc225 := NB428_420.out
                                have hcz226_0 : wr.cell? ⟨gb420, 0, none⟩ = some (.int .i64 t417) := (blk_cell BK420.out 0).trans rfl
                                have hcz226_1 : wr.cell? ⟨gb420, 1, none⟩ = some (.int .i64 t418) := (blk_cell BK420.out 1).trans rfl
                                have hfz226_0 := blk_frozen BK420.out 0
                                have hfz226_1 := blk_frozen BK420.out 1
                                go_wp2
                                go_ret
                                exact ⟨by first | rfl | (simp [errW_none, errW_some] <;> rfl) | (simp [*, errW_none, errW_some] <;> rfl), by repeat (first | (with_reducible first | exact HB.out | apply below_alloc | apply pw_below_drewN | apply below_drew1 | refine below_set ?_ GE400.out | refine below_set ?_ GE404.out | refine below_set ?_ GE408.out | refine below_set ?_ GE412.out | refine below_set ?_ GE416.out | refine below_set ?_ GE420.out | refine below_set ?_ GE424.out | refine below_set ?_ GE428.out) | exact HB.out)⟩
                            · rw [if_neg c83] at H
                              have c83b0 : (t423 == 14) = false := beq_eq_false_iff_ne.mpr c83
                              have c83b1 : (t423 != 14) = true := bne_iff_ne.mpr c83
                              obtain rfl := Option.some.inj H
                              obtain ⟨Ao227, co227, eo227⟩ := Kd.R_slice HO_17.out
                              subst eo227
                              have hnb228 := NB404_400.out
                              have hnc228 := NB400_404.out
                              have hnb229 := NB404_408.out
                              have hnc229 := NB408_404.out
                              have hnb230 := NB404_412.out
                              have hnc230 := NB412_404.out
                              have hnb231 := NB404_416.out
                              have hnc231 := NB416_404.out
                              have hnb232 := NB404_420.out
                              have hnc232 := NB420_404.out
                              have hnb233 := NB404_424.out
                              have hnc233 := NB424_404.out
                              have hnb234 := NB404_428.out
                              have hnc234 := NB428_404.out
                              have hcz235_0 : wr.cell? ⟨gb404, 0, none⟩ = some (.int .i64 t401) := (blk_cell BK404.out 0).trans rfl
                              have hcz235_1 : wr.cell? ⟨gb404, 1, none⟩ = some (.int .i64 t402) := (blk_cell BK404.out 1).trans rfl
                              have hfz235_0 := blk_frozen BK404.out 0
                              have hfz235_1 := blk_frozen BK404.out 1
                              have hnb236 := NB412_400.out
                              have hnc236 := NB400_412.out
                              have hnb237 := NB412_408.out
                              have hnc237 := NB408_412.out
                              have hnb238 := NB412_416.out
                              have hnc238 := NB416_412.out
                              have hnb239 := NB412_420.out
                              have hnc239 := NB420_412.out
                              have hnb240 := NB412_424.out
                              have hnc240 := NB424_412.out
                              have hnb241 := NB412_428.out
                              have hnc241 := NB428_412.out
                              have hcz242_0 : wr.cell? ⟨gb412, 0, none⟩ = some (.int .i64 t409) := (blk_cell BK412.out 0).trans rfl
                              have hcz242_1 : wr.cell? ⟨gb412, 1, none⟩ = some (.int .i64 t410) := (blk_cell BK412.out 1).trans rfl
                              have hfz242_0 := blk_frozen BK412.out 0
                              have hfz242_1 := blk_frozen BK412.out 1
                              have hnb243 := NB420_400.out
                              have hnc243 := NB400_420.out
                              have hnb244 := NB420_408.out
                              have hnc244 := NB408_420.out
                              have hnb245 := NB420_416.out
                              have hnc245 := NB416_420.out
                              have hnb246 := NB420_424.out
                              have hnc246 := NB424_420.out
                              have hnb247 := NB420_428.out
                              have hnc247 := NB428_420.out
                              have hcz248_0 : wr.cell? ⟨gb420, 0, none⟩ = some (.int .i64 t417) := (blk_cell BK420.out 0).trans rfl
                              have hcz248_1 : wr.cell? ⟨gb420, 1, none⟩ = some (.int .i64 t418) := (blk_cell BK420.out 1).trans rfl
                              have hfz248_0 := blk_frozen BK420.out 0
                              have hfz248_1 := blk_frozen BK420.out 1
                              go_wp2
                              go_ret
                              exact ⟨by first | rfl | (simp [errW_none, errW_some] <;> rfl) | (simp [*, errW_none, errW_some] <;> rfl), by repeat (first | (with_reducible first | exact HB.out | apply below_alloc | apply pw_below_drewN | apply below_drew1 | refine below_set ?_ GE400.out | refine below_set ?_ GE404.out | refine below_set ?_ GE408.out | refine below_set ?_ GE412.out | refine below_set ?_ GE416.out | refine below_set ?_ GE420.out | refine below_set ?_ GE424.out | refine below_set ?_ GE428.out) | exact HB.out)⟩
                          · rw [if_neg c82] at H
                            have c82b0 : (t417 == 0 && (t418 == 1)) = false := by simpa using c82
                            (try (have c82b1 : decide (t417 = 0 && (t418 == 1)) = false := by simpa using c82))
                            (try (have c82b2 : (t417 == 0 && (t418 == 1)) = false := by simpa using c82))
                            (try (have c82b3 : ¬ (t417 = 0 && (t418 == 1)) := by simpa using c82))
                            clear c82
                            obtain rfl := Option.some.inj H
                            obtain ⟨Ao249, co249, eo249⟩ := Kd.R_slice HO_17.out
                            subst eo249
                            have hnb250 := NB404_400.out
                            have hnc250 := NB400_404.out
                            have hnb251 := NB404_408.out
                            have hnc251 := NB408_404.out
                            have hnb252 := NB404_412.out
                            have hnc252 := NB412_404.out
                            have hnb253 := NB404_416.out
                            have hnc253 := NB416_404.out
                            have hnb254 := NB404_420.out
                            have hnc254 := NB420_404.out
                            have hnb255 := NB404_424.out
                            have hnc255 := NB424_404.out
                            have hnb256 := NB404_428.out
                            have hnc256 := NB428_404.out
                            have hcz257_0 : wr.cell? ⟨gb404, 0, none⟩ = some (.int .i64 t401) := (blk_cell BK404.out 0).trans rfl
                            have hcz257_1 : wr.cell? ⟨gb404, 1, none⟩ = some (.int .i64 t402) := (blk_cell BK404.out 1).trans rfl
                            have hfz257_0 := blk_frozen BK404.out 0
                            have hfz257_1 := blk_frozen BK404.out 1
                            have hnb258 := NB412_400.out
                            have hnc258 := NB400_412.out
                            have hnb259 := NB412_408.out
                            have hnc259 := NB408_412.out
                            have hnb260 := NB412_416.out
                            have hnc260 := NB416_412.out
                            have hnb261 := NB412_420.out
                            have hnc261 := NB420_412.out
                            have hnb262 := NB412_424.out
                            have hnc262 := NB424_412.out
                            have hnb263 := NB412_428.out
                            have hnc263 := NB428_412.out
                            have hcz264_0 : wr.cell? ⟨gb412, 0, none⟩ = some (.int .i64 t409) := (blk_cell BK412.out 0).trans rfl
                            have hcz264_1 : wr.cell? ⟨gb412, 1, none⟩ = some (.int .i64 t410) := (blk_cell BK412.out 1).trans rfl
                            have hfz264_0 := blk_frozen BK412.out 0
                            have hfz264_1 := blk_frozen BK412.out 1
                            have hnb265 := NB420_400.out
                            have hnc265 := NB400_420.out
                            have hnb266 := NB420_408.out
                            have hnc266 := NB408_420.out
                            have hnb267 := NB420_416.out
                            have hnc267 := NB416_420.out
                            have hnb268 := NB420_424.out
                            have hnc268 := NB424_420.out
                            have hnb269 := NB420_428.out
                            have hnc269 := NB428_420.out
                            have hcz270_0 : wr.cell? ⟨gb420, 0, none⟩ = some (.int .i64 t417) := (blk_cell BK420.out 0).trans rfl
                            have hcz270_1 : wr.cell? ⟨gb420, 1, none⟩ = some (.int .i64 t418) := (blk_cell BK420.out 1).trans rfl
                            have hfz270_0 := blk_frozen BK420.out 0
                            have hfz270_1 := blk_frozen BK420.out 1
                            go_wp2
                            go_ret
                            exact ⟨by first | rfl | (simp [errW_none, errW_some] <;> rfl) | (simp [*, errW_none, errW_some] <;> rfl), by repeat (first | (with_reducible first | exact HB.out | apply below_alloc | apply pw_below_drewN | apply below_drew1 | refine below_set ?_ GE400.out | refine below_set ?_ GE404.out | refine below_set ?_ GE408.out | refine below_set ?_ GE412.out | refine below_set ?_ GE416.out | refine below_set ?_ GE420.out | refine below_set ?_ GE424.out | refine below_set ?_ GE428.out) | exact HB.out)⟩
                        · rw [if_neg c81] at H
                          have c81b0 : (t419 == 0) = false := beq_eq_false_iff_ne.mpr c81
                          have c81b1 : (t419 != 0) = true := bne_iff_ne.mpr c81
                          obtain rfl := Option.some.inj H
                          obtain ⟨Ao271, co271, eo271⟩ := Kd.R_slice HO_17.out
                          subst eo271
                          have hnb272 := NB404_400.out
                          have hnc272 := NB400_404.out
                          have hnb273 := NB404_408.out
                          have hnc273 := NB408_404.out
                          have hnb274 := NB404_412.out
                          have hnc274 := NB412_404.out
                          have hnb275 := NB404_416.out
                          have hnc275 := NB416_404.out
                          have hnb276 := NB404_420.out
                          have hnc276 := NB420_404.out
                          have hnb277 := NB404_424.out
                          have hnc277 := NB424_404.out
                          have hnb278 := NB404_428.out
                          have hnc278 := NB428_404.out
                          have hcz279_0 : wr.cell? ⟨gb404, 0, none⟩ = some (.int .i64 t401) := (blk_cell BK404.out 0).trans rfl
                          have hcz279_1 : wr.cell? ⟨gb404, 1, none⟩ = some (.int .i64 t402) := (blk_cell BK404.out 1).trans rfl
                          have hfz279_0 := blk_frozen BK404.out 0
                          have hfz279_1 := blk_frozen BK404.out 1
                          have hnb280 := NB412_400.out
                          have hnc280 := NB400_412.out
                          have hnb281 := NB412_408.out
                          have hnc281 := NB408_412.out
                          have hnb282 := NB412_416.out
                          have hnc282 := NB416_412.out
                          have hnb283 := NB412_420.out
                          have hnc283 := NB420_412.out
                          have hnb284 := NB412_424.out
                          have hnc284 := NB424_412.out
                          have hnb285 := NB412_428.out
                          have hnc285 := NB428_412.out
                          have hcz286_0 : wr.cell? ⟨gb412, 0, none⟩ = some (.int .i64 t409) := (blk_cell BK412.out 0).trans rfl
                          have hcz286_1 : wr.cell? ⟨gb412, 1, none⟩ = some (.int .i64 t410) := (blk_cell BK412.out 1).trans rfl
                          have hfz286_0 := blk_frozen BK412.out 0
                          have hfz286_1 := blk_frozen BK412.out 1
                          go_wp2
                          go_ret
                          exact ⟨by first | rfl | (simp [errW_none, errW_some] <;> rfl) | (simp [*, errW_none, errW_some] <;> rfl), by repeat (first | (with_reducible first | exact HB.out | apply below_alloc | apply pw_below_drewN | apply below_drew1 | refine below_set ?_ GE400.out | refine below_set ?_ GE404.out | refine below_set ?_ GE408.out | refine below_set ?_ GE412.out | refine below_set ?_ GE416.out | refine below_set ?_ GE420.out | refine below_set ?_ GE424.out | refine below_set ?_ GE428.out) | exact HB.out)⟩
                      · rw [if_neg c80] at H
                        have c80b0 : (t415 == 14) = false := beq_eq_false_iff_ne.mpr c80
                        have c80b1 : (t415 != 14) = true := bne_iff_ne.mpr c80
                        obtain rfl := Option.some.inj H
                        obtain ⟨Ao287, co287, eo287⟩ := Kd.R_slice HO_17.out
                        subst eo287
                        have hnb288 := NB404_400.out
                        have hnc288 := NB400_404.out
                        have hnb289 := NB404_408.out
                        have hnc289 := NB408_404.out
                        have hnb290 := NB404_412.out
                        have hnc290 := NB412_404.out
                        have hnb291 := NB404_416.out
                        have hnc291 := NB416_404.out
                        have hnb292 := NB404_420.out
                        have hnc292 := NB420_404.out
                        have hnb293 := NB404_424.out
                        have hnc293 := NB424_404.out
                        have hnb294 := NB404_428.out
                        have hnc294 := NB428_404.out
                        have hcz295_0 : wr.cell? ⟨gb404, 0, none⟩ = some (.int .i64 t401) := (blk_cell BK404.out 0).trans rfl
                        have hcz295_1 : wr.cell? ⟨gb404, 1, none⟩ = some (.int .i64 t402) := (blk_cell BK404.out 1).trans rfl
                        have hfz295_0 := blk_frozen BK404.out 0
                        have hfz295_1 := blk_frozen BK404.out 1
                        have hnb296 := NB412_400.out
                        have hnc296 := NB400_412.out
                        have hnb297 := NB412_408.out
                        have hnc297 := NB408_412.out
                        have hnb298 := NB412_416.out
                        have hnc298 := NB416_412.out
                        have hnb299 := NB412_420.out
                        have hnc299 := NB420_412.out
                        have hnb300 := NB412_424.out
                        have hnc300 := NB424_412.out
                        have hnb301 := NB412_428.out
                        have hnc301 := NB428_412.out
                        have hcz302_0 : wr.cell? ⟨gb412, 0, none⟩ = some (.int .i64 t409) := (blk_cell BK412.out 0).trans rfl
                        have hcz302_1 : wr.cell? ⟨gb412, 1, none⟩ = some (.int .i64 t410) := (blk_cell BK412.out 1).trans rfl
                        have hfz302_0 := blk_frozen BK412.out 0
                        have hfz302_1 := blk_frozen BK412.out 1
                        go_wp2
                        go_ret
                        exact ⟨by first | rfl | (simp [errW_none, errW_some] <;> rfl) | (simp [*, errW_none, errW_some] <;> rfl), by repeat (first | (with_reducible first | exact HB.out | apply below_alloc | apply pw_below_drewN | apply below_drew1 | refine below_set ?_ GE400.out | refine below_set ?_ GE404.out | refine below_set ?_ GE408.out | refine below_set ?_ GE412.out | refine below_set ?_ GE416.out | refine below_set ?_ GE420.out | refine below_set ?_ GE424.out | refine below_set ?_ GE428.out) | exact HB.out)⟩
                    · rw [if_neg c79] at H
                      have c79b0 : (t409 == 4611686018427387904 && (t410 == 1)) = false := by simpa using c79
                      (try (have c79b1 : decide (t409 = 4611686018427387904 && (t410 == 1)) = false := by simpa using c79))
                      (try (have c79b2 : (t409 == 4611686018427387904 && (t410 == 1)) = false := by simpa using c79))
                      (try (have c79b3 : ¬ (t409 = 4611686018427387904 && (t410 == 1)) := by simpa using c79))
                      clear c79
                      obtain rfl := Option.some.inj H
                      obtain ⟨Ao303, co303, eo303⟩ := Kd.R_slice HO_17.out
                      subst eo303
                      have hnb304 := NB404_400.out
                      have hnc304 := NB400_404.out
                      have hnb305 := NB404_408.out
                      have hnc305 := NB408_404.out
                      have hnb306 := NB404_412.out
                      have hnc306 := NB412_404.out
                      have hnb307 := NB404_416.out
                      have hnc307 := NB416_404.out
                      have hnb308 := NB404_420.out
                      have hnc308 := NB420_404.out
                      have hnb309 := NB404_424.out
                      have hnc309 := NB424_404.out
                      have hnb310 := NB404_428.out
                      have hnc310 := NB428_404.out
                      have hcz311_0 : wr.cell? ⟨gb404, 0, none⟩ = some (.int .i64 t401) := (blk_cell BK404.out 0).trans rfl
                      have hcz311_1 : wr.cell? ⟨gb404, 1, none⟩ = some (.int .i64 t402) := (blk_cell BK404.out 1).trans rfl
                      have hfz311_0 := blk_frozen BK404.out 0
                      have hfz311_1 := blk_frozen BK404.out 1
                      have hnb312 := NB412_400.out
                      have hnc312 := NB400_412.out
                      have hnb313 := NB412_408.out
                      have hnc313 := NB408_412.out
                      have hnb314 := NB412_416.out
                      have hnc314 := NB416_412.out
                      have hnb315 := NB412_420.out
                      have hnc315 := NB420_412.out
                      have hnb316 := NB412_424.out
                      have hnc316 := NB424_412.out
                      have hnb317 := NB412_428.out
                      have hnc317 := NB428_412.out
                      have hcz318_0 : wr.cell? ⟨gb412, 0, none⟩ = some (.int .i64 t409) := (blk_cell BK412.out 0).trans rfl
                      have hcz318_1 : wr.cell? ⟨gb412, 1, none⟩ = some (.int .i64 t410) := (blk_cell BK412.out 1).trans rfl
                      have hfz318_0 := blk_frozen BK412.out 0
                      have hfz318_1 := blk_frozen BK412.out 1
                      go_wp2
                      go_ret
                      exact ⟨by first | rfl | (simp [errW_none, errW_some] <;> rfl) | (simp [*, errW_none, errW_some] <;> rfl), by repeat (first | (with_reducible first | exact HB.out | apply below_alloc | apply pw_below_drewN | apply below_drew1 | refine below_set ?_ GE400.out | refine below_set ?_ GE404.out | refine below_set ?_ GE408.out | refine below_set ?_ GE412.out | refine below_set ?_ GE416.out | refine below_set ?_ GE420.out | refine below_set ?_ GE424.out | refine below_set ?_ GE428.out) | exact HB.out)⟩
                  · rw [if_neg c78] at H
                    have c78b0 : (t411 == 0) = false := beq_eq_false_iff_ne.mpr c78
                    have c78b1 : (t411 != 0) = true := bne_iff_ne.mpr c78
                    obtain rfl := Option.some.inj H
                    obtain ⟨Ao319, co319, eo319⟩ := Kd.R_slice HO_17.out
                    subst eo319
                    have hnb320 := NB404_400.out
                    have hnc320 := NB400_404.out
                    have hnb321 := NB404_408.out
                    have hnc321 := NB408_404.out
                    have hnb322 := NB404_412.out
                    have hnc322 := NB412_404.out
                    have hnb323 := NB404_416.out
                    have hnc323 := NB416_404.out
                    have hnb324 := NB404_420.out
                    have hnc324 := NB420_404.out
                    have hnb325 := NB404_424.out
                    have hnc325 := NB424_404.out
                    have hnb326 := NB404_428.out
                    have hnc326 := NB428_404.out
                    have hcz327_0 : wr.cell? ⟨gb404, 0, none⟩ = some (.int .i64 t401) := (blk_cell BK404.out 0).trans rfl
                    have hcz327_1 : wr.cell? ⟨gb404, 1, none⟩ = some (.int .i64 t402) := (blk_cell BK404.out 1).trans rfl
                    have hfz327_0 := blk_frozen BK404.out 0
                    have hfz327_1 := blk_frozen BK404.out 1
                    go_wp2
                    go_ret
                    exact ⟨by first | rfl | (simp [errW_none, errW_some] <;> rfl) | (simp [*, errW_none, errW_some] <;> rfl), by repeat (first | (with_reducible first | exact HB.out | apply below_alloc | apply pw_below_drewN | apply below_drew1 | refine below_set ?_ GE400.out | refine below_set ?_ GE404.out | refine below_set ?_ GE408.out | refine below_set ?_ GE412.out | refine below_set ?_ GE416.out | refine below_set ?_ GE420.out | refine below_set ?_ GE424.out | refine below_set ?_ GE428.out) | exact HB.out)⟩
                · rw [if_neg c77] at H
                  have c77b0 : (t407 == 14) = false := beq_eq_false_iff_ne.mpr c77
                  have c77b1 : (t407 != 14) = true := bne_iff_ne.mpr c77
                  obtain rfl := Option.some.inj H
                  obtain ⟨Ao328, co328, eo328⟩ := Kd.R_slice HO_17.out
                  subst eo328
                  have hnb329 := NB404_400.out
                  have hnc329 := NB400_404.out
                  have hnb330 := NB404_408.out
                  have hnc330 := NB408_404.out
                  have hnb331 := NB404_412.out
                  have hnc331 := NB412_404.out
                  have hnb332 := NB404_416.out
                  have hnc332 := NB416_404.out
                  have hnb333 := NB404_420.out
                  have hnc333 := NB420_404.out
                  have hnb334 := NB404_424.out
                  have hnc334 := NB424_404.out
                  have hnb335 := NB404_428.out
                  have hnc335 := NB428_404.out
                  have hcz336_0 : wr.cell? ⟨gb404, 0, none⟩ = some (.int .i64 t401) := (blk_cell BK404.out 0).trans rfl
                  have hcz336_1 : wr.cell? ⟨gb404, 1, none⟩ = some (.int .i64 t402) := (blk_cell BK404.out 1).trans rfl
                  have hfz336_0 := blk_frozen BK404.out 0
                  have hfz336_1 := blk_frozen BK404.out 1
                  go_wp2
                  go_ret
                  exact ⟨by first | rfl | (simp [errW_none, errW_some] <;> rfl) | (simp [*, errW_none, errW_some] <;> rfl), by repeat (first | (with_reducible first | exact HB.out | apply below_alloc | apply pw_below_drewN | apply below_drew1 | refine below_set ?_ GE400.out | refine below_set ?_ GE404.out | refine below_set ?_ GE408.out | refine below_set ?_ GE412.out | refine below_set ?_ GE416.out | refine below_set ?_ GE420.out | refine below_set ?_ GE424.out | refine below_set ?_ GE428.out) | exact HB.out)⟩
              · rw [if_neg c76] at H
                have c76b0 : (t401 == 0 && (t402 == 1)) = false := by simpa using c76
                (try (have c76b1 : decide (t401 = 0 && (t402 == 1)) = false := by simpa using c76))
                (try (have c76b2 : (t401 == 0 && (t402 == 1)) = false := by simpa using c76))
                (try (have c76b3 : ¬ (t401 = 0 && (t402 == 1)) := by simpa using c76))
                clear c76
                obtain rfl := Option.some.inj H
                obtain ⟨Ao337, co337, eo337⟩ := Kd.R_slice HO_17.out
                subst eo337
                have hnb338 := NB404_400.out
                have hnc338 := NB400_404.out
                have hnb339 := NB404_408.out
                have hnc339 := NB408_404.out
                have hnb340 := NB404_412.out
                have hnc340 := NB412_404.out
                have hnb341 := NB404_416.out
                have hnc341 := NB416_404.out
                have hnb342 := NB404_420.out
                have hnc342 := NB420_404.out
                have hnb343 := NB404_424.out
                have hnc343 := NB424_404.out
                have hnb344 := NB404_428.out
                have hnc344 := NB428_404.out
                have hcz345_0 : wr.cell? ⟨gb404, 0, none⟩ = some (.int .i64 t401) := (blk_cell BK404.out 0).trans rfl
                have hcz345_1 : wr.cell? ⟨gb404, 1, none⟩ = some (.int .i64 t402) := (blk_cell BK404.out 1).trans rfl
                have hfz345_0 := blk_frozen BK404.out 0
                have hfz345_1 := blk_frozen BK404.out 1
                go_wp2
                go_ret
                exact ⟨by first | rfl | (simp [errW_none, errW_some] <;> rfl) | (simp [*, errW_none, errW_some] <;> rfl), by repeat (first | (with_reducible first | exact HB.out | apply below_alloc | apply pw_below_drewN | apply below_drew1 | refine below_set ?_ GE400.out | refine below_set ?_ GE404.out | refine below_set ?_ GE408.out | refine below_set ?_ GE412.out | refine below_set ?_ GE416.out | refine below_set ?_ GE420.out | refine below_set ?_ GE424.out | refine below_set ?_ GE428.out) | exact HB.out)⟩
            · rw [if_neg c75] at H
              have c75b0 : (t403 == 0) = false := beq_eq_false_iff_ne.mpr c75
              have c75b1 : (t403 != 0) = true := bne_iff_ne.mpr c75
              obtain rfl := Option.some.inj H
              obtain ⟨Ao346, co346, eo346⟩ := Kd.R_slice HO_17.out
              subst eo346
              go_wp2
              go_ret
              exact ⟨by first | rfl | (simp [errW_none, errW_some] <;> rfl) | (simp [*, errW_none, errW_some] <;> rfl), by repeat (first | (with_reducible first | exact HB.out | apply below_alloc | apply pw_below_drewN | apply below_drew1 | refine below_set ?_ GE400.out | refine below_set ?_ GE404.out | refine below_set ?_ GE408.out | refine below_set ?_ GE412.out | refine below_set ?_ GE416.out | refine below_set ?_ GE420.out | refine below_set ?_ GE424.out | refine below_set ?_ GE428.out) | exact HB.out)⟩
          · rw [if_neg c74] at H
            have c74b0 : (t399 == 2) = false := beq_eq_false_iff_ne.mpr c74
            have c74b1 : (t399 != 2) = true := bne_iff_ne.mpr c74
            obtain rfl := Option.some.inj H
            obtain ⟨Ao347, co347, eo347⟩ := Kd.R_slice HO_17.out
            subst eo347
            go_wp2
            go_ret
            exact ⟨by first | rfl | (simp [errW_none, errW_some] <;> rfl) | (simp [*, errW_none, errW_some] <;> rfl), by repeat (first | (with_reducible first | exact HB.out | apply below_alloc | apply pw_below_drewN | apply below_drew1 | refine below_set ?_ GE400.out | refine below_set ?_ GE404.out | refine below_set ?_ GE408.out | refine below_set ?_ GE412.out | refine below_set ?_ GE416.out | refine below_set ?_ GE420.out | refine below_set ?_ GE424.out | refine below_set ?_ GE428.out) | exact HB.out)⟩
  · replace c2 := Bool.eq_false_iff.mpr c2
    subst c2
    have H1 : (some false) = some r := by rw [if_neg (show ¬ (false = true) by decide)] at H; exact H
    clear H
    have H := H1
    clear H1
    obtain rfl := Option.some.inj H
    go_enter Try.func7, Try.ntmps7
    go_wp2_with (first | ((with_reducible refine gate_callee (f := 9) rfl ?_); refine goesL_ (some 19) rfl rfl Try.func9 (by kernel_rfl) rfl #[] rfl (by (try simp only [List.map_toArray, List.map_cons, List.map_nil]); first | done | rfl | (simp only [List.length_drop, List.length_take]; rfl)) ?_; (with_reducible refine (evenhandedlaw2_awake.calls k  false _ A1.out).mono ?_); rintro e w348 ⟨rfl, hb⟩; refine ⟨_, rfl, ?_⟩; have n0_ := Aside0.mk (below_step (by repeat (first | (with_reducible first | exact HB.out | apply below_alloc | apply pw_below_drewN | apply below_drew1) | exact HB.out)) hb); clear HB; have HB := n0_; clear n0_; (try clear hb); (try clear hb2); (try clear hk); (try clear hi)))
    go_ret
    exact ⟨by first | rfl | (simp [errW_none, errW_some] <;> rfl) | (simp [*, errW_none, errW_some] <;> rfl), by repeat (first | (with_reducible first | exact HB.out | apply below_alloc | apply pw_below_drewN | apply below_drew1) | exact HB.out)⟩

/-- THE ONE PURE STATEMENT of evenhandedlaw2_RatioKnown: yours. -/
def evenhandedlaw2_RatioKnown.Pure : Prop := ∃ k, evenhandedlaw2_RatioKnown.f k  = some true
theorem evenhandedlaw2_RatioKnown.walk (P : evenhandedlaw2_RatioKnown.Pure)  (w : World)  :
    Calls Try.prog 7 #[] w fun e w' => e = .returned (.bool true) ∧ Below w.heap.size w w' := by
  obtain ⟨k, h⟩ := P  
  refine (evenhandedlaw2_RatioKnown.calls k  true w h).mono ?_
  rintro e w' ⟨rfl, hd⟩
  exact ⟨rfl, hd⟩

end Go.Proofs.Ytpgecjedifcilaa.PR
