/- The functions of package rank but Sort, walked by hand: Of, compare, Less. No condition but that a rank's release is a number of 64 bits. -/
import Derived.Test.YtmjgadhknliiaaaWin
import Derived.Test.YtmjgadhknliiaaaCmp
import Derived.Deep.RegionHeld3
import Derived.StillTactics
import Derived.Deep.Cut
import Derived.Deep.DeepCutAuto
set_option linter.unusedVariables false
set_option linter.unusedSimpArgs false
namespace Go.Proofs.Ytmjgadhknliiaaa.Rank
open Go.RowKit Go.Proofs.Ytmjgadhknliiaaa.Kit Go.Proofs.Ytmjgadhknliiaaa.Cmp Go.Proofs.Ytmjgadhknliiaaa.Win EvPlain
/-- A rank: deadline, bit, group, id. -/
structure R where
  d : Int
  b : Int
  g : Int
  i : Int
abbrev R.v (r : R) : Value := .agg #[.int .i64 r.d, .int .i64 r.b, .int .i64 r.g, .int .i64 r.i]
def c1 (x y : R) : Int := or2 (cmp3 x.d y.d) (cmp3 y.b x.b)
def c2 (x y : R) : Int := if c1 x y = 0 ∧ x.b = 1 then cmp3 y.g x.g else c1 x y
def rcmp (x y : R) : Int := or2 (c2 x y) (cmp3 x.i y.i)
set_option maxHeartbeats 2000000 in
set_option maxRecDepth 100000 in
theorem compare_at (x y : R) (w : World) : Calls Try.prog 20 #[x.v, y.v] w fun r w' => r = .returned (.int .i64 (rcmp x y)) ∧ Below w.heap.size w w' := by
  obtain ⟨xd, xb, xg, xi⟩ := x
  obtain ⟨yd, yb, yg, yi⟩ := y
  have CC := fun x y w => Side.mk (Compare_at x y w)
  obtain ⟨W0, hW0⟩ : ∃ W0, W0 = (w.alloc (.cells #[.int .i64 xd, .int .i64 xb, .int .i64 xg, .int .i64 xi] 26)).alloc (.cells #[.int .i64 yd, .int .i64 yb, .int .i64 yg, .int .i64 yi] 26) := ⟨_, rfl⟩
  have HW := Side.mk hW0
  clear hW0
  go_enter Try.func20, Try.ntmps20
  go_upto_region 1 with (fail)
  go_cut [5] (fun v wc => v = .int .i64 (c1 ⟨xd, xb, xg, xi⟩ ⟨yd, yb, yg, yi⟩) ∧ Side (Below (w.heap.size + 2) W0 wc))
  case first =>
    go_region_held3 (fun w' => w'.cell? ⟨w.heap.size, 0, none⟩ = some (.int .i64 xd) ∧ w'.cell? ⟨w.heap.size, 1, none⟩ = some (.int .i64 xb) ∧ w'.cell? ⟨w.heap.size + 1, 0, none⟩ = some (.int .i64 yd) ∧ w'.cell? ⟨w.heap.size + 1, 1, none⟩ = some (.int .i64 yb)) (go_keep)
      (first
        | (go_at_call 28; (with_reducible refine (CC _ _ _).out.mono ?_); rintro e w2 ⟨rfl, rfl⟩)
        | (go_at_call 27; refine (Or2_at (w.heap.size + 1 + 1) (cmp3 xd yd) (cmp3 yb xb) _ (by go_simp) (by go_simp)).mono ?_; rintro e w3 ⟨rfl, rfl⟩))
    go_wp2
    go_meet
    case rel =>
      refine ⟨rfl, ⟨?_⟩⟩
      rw [HW.out]
      repeat (first | exact Below.refl _ _ | apply below_drewN | apply below_drew | refine Below.alloc ?_ (by simp) _)
  case rest =>
    obtain ⟨rfl, HB⟩ := hcut
    have z0 : w.heap.size + 2 ≤ wc.heap.size := by have := HB.out.size; rw [HW.out] at this; simp at this; omega
    have cell : ∀ b o, b < w.heap.size + 2 → wc.cell? ⟨b, o, none⟩ = W0.cell? ⟨b, o, none⟩ := fun b o h => HB.out.cell (p := ⟨b, o, none⟩) h
    have k1 : wc.cell? ⟨w.heap.size, 1, none⟩ = some (.int .i64 xb) := (cell _ _ (by omega)).trans (by rw [HW.out]; go_simp)
    have k2 : wc.cell? ⟨w.heap.size, 2, none⟩ = some (.int .i64 xg) := (cell _ _ (by omega)).trans (by rw [HW.out]; go_simp)
    have k3 : wc.cell? ⟨w.heap.size, 3, none⟩ = some (.int .i64 xi) := (cell _ _ (by omega)).trans (by rw [HW.out]; go_simp)
    have m2 : wc.cell? ⟨w.heap.size + 1, 2, none⟩ = some (.int .i64 yg) := (cell _ _ (by omega)).trans (by rw [HW.out]; go_simp)
    have m3 : wc.cell? ⟨w.heap.size + 1, 3, none⟩ = some (.int .i64 yi) := (cell _ _ (by omega)).trans (by rw [HW.out]; go_simp)
    have HB' : Side (Below w.heap.size w wc) := ⟨by
      have h := HB.out.mono (B' := w.heap.size) (by omega)
      rw [HW.out] at h
      exact (((Below.refl _ _).alloc (Nat.le_refl _) _).alloc (by simp) _).trans h⟩
    clear cell HB HW
    have R : Side (rcmp ⟨xd, xb, xg, xi⟩ ⟨yd, yb, yg, yi⟩ = or2 (c2 ⟨xd, xb, xg, xi⟩ ⟨yd, yb, yg, yi⟩) (cmp3 xi yi)) := ⟨rfl⟩
    have R2 : Side (c2 ⟨xd, xb, xg, xi⟩ ⟨yd, yb, yg, yi⟩ = if c1 ⟨xd, xb, xg, xi⟩ ⟨yd, yb, yg, yi⟩ = 0 ∧ xb = 1 then cmp3 yg xg else c1 ⟨xd, xb, xg, xi⟩ ⟨yd, yb, yg, yi⟩) := ⟨rfl⟩
    generalize c1 ⟨xd, xb, xg, xi⟩ ⟨yd, yb, yg, yi⟩ = c at *
    generalize c2 ⟨xd, xb, xg, xi⟩ ⟨yd, yb, yg, yi⟩ = q at *
    have hcase : ((c == 0) = true ∧ (xb == 1) = true ∧ Side (q = cmp3 yg xg)) ∨ ((c == 0) = true ∧ (xb == 1) = false ∧ Side (q = c)) ∨ ((c == 0) = false ∧ Side (q = c)) := by
      by_cases h1 : c = 0
      · by_cases h2 : xb = 1
        · exact .inl ⟨beq_iff_eq.2 h1, beq_iff_eq.2 h2, ⟨by rw [R2.out, if_pos ⟨h1, h2⟩]⟩⟩
        · exact .inr (.inl ⟨beq_iff_eq.2 h1, beq_eq_false_iff_ne.2 h2, ⟨by rw [R2.out, if_neg (fun h => h2 h.2)]⟩⟩)
      · exact .inr (.inr ⟨beq_eq_false_iff_ne.2 h1, ⟨by rw [R2.out, if_neg (fun h => h1 h.1)]⟩⟩)
    clear R2
    rcases hcase with ⟨b1, b2, Q⟩ | ⟨b1, b2, Q⟩ | ⟨b1, Q⟩
    · go_wp2_with (first
        | (go_at_call 28; (with_reducible refine (CC _ _ _).out.mono ?_); rintro e w2 ⟨rfl, rfl⟩)
        | (go_at_call 27; refine (Or2_at wc.heap.size (cmp3 yg xg) (cmp3 xi yi) _ (by go_simp) (by go_simp)).mono ?_; rintro e w3 ⟨rfl, rfl⟩))
      go_ret
      exact ⟨ret_int (by rw [R.out, Q.out]), by repeat (first | exact HB'.out | apply below_drewN | apply below_drew | apply below_alloc)⟩
    all_goals
      go_wp2_with (first
        | (go_at_call 28; (with_reducible refine (CC _ _ _).out.mono ?_); rintro e w2 ⟨rfl, rfl⟩)
        | (go_at_call 27; refine (Or2_at wc.heap.size c (cmp3 xi yi) _ (by go_simp) (by go_simp)).mono ?_; rintro e w3 ⟨rfl, rfl⟩))
      go_ret
      exact ⟨ret_int (by rw [R.out, Q.out]), by repeat (first | exact HB'.out | apply below_drewN | apply below_drew | apply below_alloc)⟩
set_option maxRecDepth 100000 in
theorem Less_at (x y : R) (w : World) : Calls Try.prog 10 #[x.v, y.v] w fun r w' => r = .returned (.bool (decide (rcmp x y < 0))) ∧ Below w.heap.size w w' := by
  obtain ⟨xd, xb, xg, xi⟩ := x
  obtain ⟨yd, yb, yg, yi⟩ := y
  have C : ∀ w, Side (Calls Try.prog 20 #[.agg #[.int .i64 xd, .int .i64 xb, .int .i64 xg, .int .i64 xi], .agg #[.int .i64 yd, .int .i64 yb, .int .i64 yg, .int .i64 yi]] w fun r w' => r = .returned (.int .i64 (rcmp ⟨xd, xb, xg, xi⟩ ⟨yd, yb, yg, yi⟩)) ∧ Below w.heap.size w w') := fun w => ⟨compare_at ⟨xd, xb, xg, xi⟩ ⟨yd, yb, yg, yi⟩ w⟩
  generalize rcmp ⟨xd, xb, xg, xi⟩ ⟨yd, yb, yg, yi⟩ = q at *
  go_enter Try.func10, Try.ntmps10
  go_wp2_with (((with_reducible refine (C _).out.mono ?_); rintro e w2 ⟨rfl, hb⟩))
  go_ret
  refine ⟨rfl, ?_⟩
  exact (((Below.refl _ _).alloc (Nat.le_refl _) _).alloc (by simp) _).trans (hb.mono (by simp; omega))
def ofq (e p i r id : Int) : R := if T e p i then ⟨wrap64 (r + dead e p i), bit e p i, if 0 < group e p i then wrap64 (r + group e p i) else 0, id⟩ else ⟨0, 0, 0, id⟩
set_option maxHeartbeats 1000000 in
set_option maxRecDepth 100000 in
theorem Of_core (e p i r id d b g : Int) (w : World) (M : ∀ w, Side (Calls Try.prog 16 #[.int .i64 e, .int .i64 p, .int .i64 i] w fun r w' => r = .returned (.bool true) ∧ Still w w'))
    (D : ∀ w, Side (Calls Try.prog 17 #[.int .i64 e, .int .i64 p, .int .i64 i] w fun r w' => r = .returned (.int .i64 d) ∧ Still w w'))
    (B : ∀ w, Side (Calls Try.prog 18 #[.int .i64 e, .int .i64 p, .int .i64 i] w fun r w' => r = .returned (.int .i64 b) ∧ Still w w'))
    (G : ∀ w, Side (Calls Try.prog 19 #[.int .i64 e, .int .i64 p, .int .i64 i] w fun r w' => r = .returned (.int .i64 g) ∧ Still w w'))
    (b1 : decide (0 < g) = true) :
    Calls Try.prog 9 #[.int .i64 e, .int .i64 p, .int .i64 i, .int .i64 r, .int .i64 id] w fun x w' => x = .returned (.agg #[.int .i64 (wrap64 (r + d)), .int .i64 b, .int .i64 (wrap64 (r + g)), .int .i64 id]) ∧ Below w.heap.size w w' := by
  go_enter Try.func9, Try.ntmps9
  go_wp2_with fail
  refine (M _).out.mono ?_
  rintro q w' ⟨rfl, n, rfl⟩
  go_wp2_with fail
  refine (D _).out.mono ?_
  rintro q w' ⟨rfl, n, rfl⟩
  go_wp2_with fail
  refine (B _).out.mono ?_
  rintro q w' ⟨rfl, n, rfl⟩
  go_wp2_with fail
  refine (G _).out.mono ?_
  rintro q w' ⟨rfl, n, rfl⟩
  go_wp2_with fail
  exact bodyPost_ret (by simp [results, Try.results9, go_sem] <;> rfl) rfl ⟨rfl, by (repeat (with_reducible first | exact Below.refl _ _ | apply below_drewN | apply below_drew | apply below_alloc | refine Below.setCell ?_ ?_ _)) <;> simp⟩
set_option maxHeartbeats 1000000 in
set_option maxRecDepth 100000 in
theorem Of_core0 (e p i r id d b g : Int) (w : World) (M : ∀ w, Side (Calls Try.prog 16 #[.int .i64 e, .int .i64 p, .int .i64 i] w fun r w' => r = .returned (.bool true) ∧ Still w w'))
    (D : ∀ w, Side (Calls Try.prog 17 #[.int .i64 e, .int .i64 p, .int .i64 i] w fun r w' => r = .returned (.int .i64 d) ∧ Still w w'))
    (B : ∀ w, Side (Calls Try.prog 18 #[.int .i64 e, .int .i64 p, .int .i64 i] w fun r w' => r = .returned (.int .i64 b) ∧ Still w w'))
    (G : ∀ w, Side (Calls Try.prog 19 #[.int .i64 e, .int .i64 p, .int .i64 i] w fun r w' => r = .returned (.int .i64 g) ∧ Still w w'))
    (b1 : decide (0 < g) = false) :
    Calls Try.prog 9 #[.int .i64 e, .int .i64 p, .int .i64 i, .int .i64 r, .int .i64 id] w fun x w' => x = .returned (.agg #[.int .i64 (wrap64 (r + d)), .int .i64 b, .int .i64 0, .int .i64 id]) ∧ Below w.heap.size w w' := by
  go_enter Try.func9, Try.ntmps9
  go_wp2_with fail
  refine (M _).out.mono ?_
  rintro q w' ⟨rfl, n, rfl⟩
  go_wp2_with fail
  refine (D _).out.mono ?_
  rintro q w' ⟨rfl, n, rfl⟩
  go_wp2_with fail
  refine (B _).out.mono ?_
  rintro q w' ⟨rfl, n, rfl⟩
  go_wp2_with fail
  refine (G _).out.mono ?_
  rintro q w' ⟨rfl, n, rfl⟩
  go_wp2_with fail
  exact bodyPost_ret (by simp [results, Try.results9, go_sem] <;> rfl) rfl ⟨rfl, by (repeat (with_reducible first | exact Below.refl _ _ | apply below_drewN | apply below_drew | apply below_alloc | refine Below.setCell ?_ ?_ _)) <;> simp⟩
set_option maxRecDepth 100000 in
theorem Of_no (e p i r id : Int) (w : World) (M : ∀ w, Side (Calls Try.prog 16 #[.int .i64 e, .int .i64 p, .int .i64 i] w fun r w' => r = .returned (.bool false) ∧ Still w w')) :
    Calls Try.prog 9 #[.int .i64 e, .int .i64 p, .int .i64 i, .int .i64 r, .int .i64 id] w fun x w' => x = .returned (.agg #[.int .i64 0, .int .i64 0, .int .i64 0, .int .i64 id]) ∧ Below w.heap.size w w' := by
  go_enter Try.func9, Try.ntmps9
  go_wp2_with fail
  refine (M _).out.mono ?_
  rintro q w' ⟨rfl, n, rfl⟩
  go_wp2_with fail
  exact bodyPost_ret (by simp [results, Try.results9, go_sem] <;> rfl) rfl ⟨rfl, by (repeat (with_reducible first | exact Below.refl _ _ | apply below_drewN | apply below_drew | apply below_alloc | refine Below.setCell ?_ ?_ _)) <;> simp⟩
theorem Of_at (e p i r id : Int) (w : World) : Calls Try.prog 9 #[.int .i64 e, .int .i64 p, .int .i64 i, .int .i64 r, .int .i64 id] w fun x w' => x = .returned (ofq e p i r id).v ∧ Below w.heap.size w w' := by
  have M := fun w => Side.mk (May_at e p i w)
  have D := fun w => Side.mk (Deadline_at e p i w)
  have B := fun w => Side.mk (Bit_at e p i w)
  have G := fun w => Side.mk (Group_at e p i w)
  by_cases h : T e p i
  · rw [decide_eq_true h] at M
    by_cases hg : 0 < group e p i
    · have R : ofq e p i r id = ⟨wrap64 (r + dead e p i), bit e p i, wrap64 (r + group e p i), id⟩ := by unfold ofq; rw [if_pos h, if_pos hg]
      rw [R]; exact Of_core e p i r id _ _ _ w M D B G (decide_eq_true hg)
    · have R : ofq e p i r id = ⟨wrap64 (r + dead e p i), bit e p i, 0, id⟩ := by unfold ofq; rw [if_pos h, if_neg hg]
      rw [R]; exact Of_core0 e p i r id _ _ _ w M D B G (decide_eq_false hg)
  · rw [decide_eq_false h] at M
    have R : ofq e p i r id = ⟨0, 0, 0, id⟩ := by unfold ofq; rw [if_neg h]
    rw [R]; exact Of_no e p i r id w M
end Go.Proofs.Ytmjgadhknliiaaa.Rank
