/- Package heap: the law's own less; rows of ranks that come in. No condition. -/
import Derived.Test.YtiebpmbongmgkaaHpL
import Derived.Test.YtiebpmbongmgkaaRankL
import Derived.Test.YtiebpmbongmgkaaKit2
set_option linter.unusedVariables false
set_option linter.unusedSimpArgs false
namespace Go.Proofs.Ytiebpmbongmgkaa.HpN
open Go.RowKit Go.Proofs.Ytiebpmbongmgkaa.Kit Go.Proofs.Ytiebpmbongmgkaa.Kit3 Go.Proofs.Ytiebpmbongmgkaa.Kit4 HpPlain Go.Maps Go.Proofs.Ytiebpmbongmgkaa.Rank Go.Proofs.Ytiebpmbongmgkaa.HpA Go.Proofs.Ytiebpmbongmgkaa.HpD
open Go.Proofs.YtiebpmbongmgkaaW.PrintLast
theorem rless_eq (x y : R) : rless x y = decide (rcmp x y < 0) := by
  rw [Bool.eq_iff_iff, decide_eq_true_eq, rcmp_neg]
  unfold rless
  split
  · rw [decide_eq_true_eq]; omega
  · split
    · rw [decide_eq_true_eq]; omega
    · split
      · rw [decide_eq_true_eq]; omega
      · rw [decide_eq_true_eq]; omega
theorem RankLessC (x1 x2 x3 x4 y1 y2 y3 y4 : Int) (w : World) : Side (Calls Try.prog 19 #[.agg #[.int .i64 x1, .int .i64 x2, .int .i64 x3, .int .i64 x4], .agg #[.int .i64 y1, .int .i64 y2, .int .i64 y3, .int .i64 y4]] w fun r w' => r = .returned (.bool (decide (rcmp ⟨x1, x2, x3, x4⟩ ⟨y1, y2, y3, y4⟩ < 0))) ∧ Below w.heap.size w w') := ⟨by
  have := RankLess_at ⟨x1, x2, x3, x4⟩ ⟨y1, y2, y3, y4⟩ w
  rw [rless_eq] at this
  exact this⟩
/-- A deed. -/
abbrev dv (d : Int) (x : It) : Value := .agg #[.int .i64 d, .int .i64 x.1, .int .i64 x.2.1, .int .i64 x.2.2.1, .int .i64 x.2.2.2.1, .int .i64 x.2.2.2.2]
set_option maxHeartbeats 4000000 in
set_option maxRecDepth 100000 in
theorem lawless_time (d e : Int) (x y : It) (w : World) : Calls Try.prog 14 #[.int .i64 2, dv d x, dv e y] w fun r w' => r = .returned (.bool (lt 2 x y)) ∧ Below w.heap.size w w' := by
  have HL := lt_iff 2 x y
  unfold key at HL
  rw [if_pos rfl, if_pos rfl] at HL
  simp only [klt, Int.lt_irrefl, false_or, true_and] at HL
  obtain ⟨x0, x1, x2, x3, x4⟩ := x
  obtain ⟨y0, y1, y2, y3, y4⟩ := y
  simp only at HL
  have hcase : ((x1 != y1) = true ∧ Side (lt 2 (x0, x1, x2, x3, x4) (y0, y1, y2, y3, y4) = decide (x1 < y1))) ∨ ((x1 != y1) = false ∧ (x4 != y4) = true ∧ Side (lt 2 (x0, x1, x2, x3, x4) (y0, y1, y2, y3, y4) = decide (x4 < y4))) ∨ ((x1 != y1) = false ∧ (x4 != y4) = false ∧ Side (lt 2 (x0, x1, x2, x3, x4) (y0, y1, y2, y3, y4) = decide (x0 < y0))) := by
    by_cases h1 : x1 = y1
    · by_cases h2 : x4 = y4
      · exact .inr (.inr ⟨bne_eq_false_iff_eq.2 h1, bne_eq_false_iff_eq.2 h2, ⟨by rw [Bool.eq_iff_iff, HL, decide_eq_true_eq]; omega⟩⟩)
      · exact .inr (.inl ⟨bne_eq_false_iff_eq.2 h1, bne_iff_ne.2 h2, ⟨by rw [Bool.eq_iff_iff, HL, decide_eq_true_eq]; omega⟩⟩)
    · exact .inl ⟨bne_iff_ne.2 h1, ⟨by rw [Bool.eq_iff_iff, HL, decide_eq_true_eq]; omega⟩⟩
  clear HL
  generalize lt 2 (x0, x1, x2, x3, x4) (y0, y1, y2, y3, y4) = res at *
  rcases hcase with ⟨b1, RR⟩ | ⟨b1, b2, RR⟩ | ⟨b1, b2, RR⟩
  all_goals
    go_enter Try.func14, Try.ntmps14
    go_wp2
    go_ret
    exact ⟨ret_bool RR.out.symm, by (repeat (with_reducible first | exact Below.refl _ _ | apply below_drewN | apply below_drew | apply below_alloc))⟩
set_option maxHeartbeats 4000000 in
set_option maxRecDepth 100000 in
theorem lawless_rank (kind : Int) (hk : ¬ kind = 2) (d e : Int) (x y : It) (w : World) : Calls Try.prog 14 #[.int .i64 kind, dv d x, dv e y] w fun r w' => r = .returned (.bool (lt kind x y)) ∧ Below w.heap.size w w' := by
  have hkb : (kind == 2) = false := by simpa using hk
  have hcase0 := lt_cases kind hk x y
  obtain ⟨x0, x1, x2, x3, x4⟩ := x
  obtain ⟨y0, y1, y2, y3, y4⟩ := y
  have CX := fun w => RankLessC x1 x2 x3 x4 y1 y2 y3 y4 w
  have CY := fun w => RankLessC y1 y2 y3 y4 x1 x2 x3 x4 w
  have hcase : (decide (rcmp ⟨x1, x2, x3, x4⟩ ⟨y1, y2, y3, y4⟩ < 0) = true ∧ Side (lt kind (x0, x1, x2, x3, x4) (y0, y1, y2, y3, y4) = true)) ∨ (decide (rcmp ⟨x1, x2, x3, x4⟩ ⟨y1, y2, y3, y4⟩ < 0) = false ∧ decide (rcmp ⟨y1, y2, y3, y4⟩ ⟨x1, x2, x3, x4⟩ < 0) = true ∧ Side (lt kind (x0, x1, x2, x3, x4) (y0, y1, y2, y3, y4) = false)) ∨ (decide (rcmp ⟨x1, x2, x3, x4⟩ ⟨y1, y2, y3, y4⟩ < 0) = false ∧ decide (rcmp ⟨y1, y2, y3, y4⟩ ⟨x1, x2, x3, x4⟩ < 0) = false ∧ Side (lt kind (x0, x1, x2, x3, x4) (y0, y1, y2, y3, y4) = decide (x0 < y0))) := hcase0
  clear hcase0 hk
  generalize decide (rcmp ⟨x1, x2, x3, x4⟩ ⟨y1, y2, y3, y4⟩ < 0) = c1 at *
  generalize decide (rcmp ⟨y1, y2, y3, y4⟩ ⟨x1, x2, x3, x4⟩ < 0) = c2 at *
  generalize lt kind (x0, x1, x2, x3, x4) (y0, y1, y2, y3, y4) = res at *
  obtain ⟨W1, hW⟩ : ∃ W1, W1 = (w.alloc (.cells #[.int .i64 d, .int .i64 x0, .int .i64 x1, .int .i64 x2, .int .i64 x3, .int .i64 x4] 42)).alloc (.cells #[.int .i64 e, .int .i64 y0, .int .i64 y1, .int .i64 y2, .int .i64 y3, .int .i64 y4] 42) := ⟨_, rfl⟩
  have HB : Side (Below w.heap.size w W1) := ⟨by rw [hW]; exact ((Below.refl _ w).alloc (Nat.le_refl _) _).alloc (by simp) _⟩
  have HW := Side.mk hW
  clear hW
  have FX : Side (∀ w2, Below W1.heap.size W1 w2 → ∀ r v, ([.int .i64 d, .int .i64 x0, .int .i64 x1, .int .i64 x2, .int .i64 x3, .int .i64 x4] : List Value)[r]? = some v → w2.cell? ⟨w.heap.size, r, none⟩ = some v) := ⟨fun w2 hb r v hr => by
    refine (hb.cell (p := ⟨w.heap.size, r, none⟩) (by rw [HW.out]; simp; omega)).trans ?_
    rw [HW.out]
    have h0 : (w.alloc (.cells #[.int .i64 d, .int .i64 x0, .int .i64 x1, .int .i64 x2, .int .i64 x3, .int .i64 x4] 42)).cell? ⟨w.heap.size, r, none⟩ = some v := (World.cell?_alloc_at _ _ _ _ rfl).trans (by simpa using hr)
    exact (World.cell?_alloc_some _ _ _ (by rw [h0]; rfl)).trans h0⟩
  have FY : Side (∀ w2, Below W1.heap.size W1 w2 → ∀ r v, ([.int .i64 e, .int .i64 y0, .int .i64 y1, .int .i64 y2, .int .i64 y3, .int .i64 y4] : List Value)[r]? = some v → w2.cell? ⟨w.heap.size + 1, r, none⟩ = some v) := ⟨fun w2 hb r v hr => by
    refine (hb.cell (p := ⟨w.heap.size + 1, r, none⟩) (by rw [HW.out]; simp)).trans ?_
    rw [HW.out]
    exact (World.cell?_alloc_at _ _ _ _ (by simp)).trans (by simpa using hr)⟩
  rcases hcase with ⟨rfl, RR⟩ | ⟨rfl, rfl, RR⟩ | ⟨rfl, rfl, RR⟩
  · go_enter Try.func14, Try.ntmps14
    go_wp2_with fail
    refine (CX _).out.mono ?_
    rintro r1 w2 ⟨rfl, hb⟩
    rw [← HW.out] at hb
    have HB2 := Side.mk hb
    have u0 := FX.out w2 hb 2 _ rfl
    have u1 := FX.out w2 hb 3 _ rfl
    have u2 := FX.out w2 hb 4 _ rfl
    have u3 := FX.out w2 hb 5 _ rfl
    have v0 := FY.out w2 hb 2 _ rfl
    have v1 := FY.out w2 hb 3 _ rfl
    have v2 := FY.out w2 hb 4 _ rfl
    have v3 := FY.out w2 hb 5 _ rfl
    clear hb
    go_wp2_with fail
    refine (CX _).out.mono ?_
    rintro r2 w3 ⟨rfl, hb⟩
    have HB3 := Side.mk (below_then HB2.out HB2.out.size hb)
    clear hb
    go_wp2
    go_ret
    exact ⟨ret_bool (by rw [RR.out]), below_then HB.out HB.out.size HB3.out⟩
  · go_enter Try.func14, Try.ntmps14
    go_wp2_with fail
    refine (CX _).out.mono ?_
    rintro r1 w2 ⟨rfl, hb⟩
    rw [← HW.out] at hb
    have HB2 := Side.mk hb
    have u0 := FX.out w2 hb 2 _ rfl
    have u1 := FX.out w2 hb 3 _ rfl
    have u2 := FX.out w2 hb 4 _ rfl
    have u3 := FX.out w2 hb 5 _ rfl
    have v0 := FY.out w2 hb 2 _ rfl
    have v1 := FY.out w2 hb 3 _ rfl
    have v2 := FY.out w2 hb 4 _ rfl
    have v3 := FY.out w2 hb 5 _ rfl
    clear hb
    go_wp2_with fail
    refine (CY _).out.mono ?_
    rintro r2 w3 ⟨rfl, hb⟩
    have HB3 := Side.mk (below_then HB2.out HB2.out.size hb)
    clear u0 u1 u2 u3 v0 v1 v2 v3 hb
    have u0 := FX.out w3 HB3.out 2 _ rfl
    have u1 := FX.out w3 HB3.out 3 _ rfl
    have u2 := FX.out w3 HB3.out 4 _ rfl
    have u3 := FX.out w3 HB3.out 5 _ rfl
    have v0 := FY.out w3 HB3.out 2 _ rfl
    have v1 := FY.out w3 HB3.out 3 _ rfl
    have v2 := FY.out w3 HB3.out 4 _ rfl
    have v3 := FY.out w3 HB3.out 5 _ rfl
    go_wp2_with fail
    refine (CX _).out.mono ?_
    rintro r3 w4 ⟨rfl, hb⟩
    have HB4 := Side.mk (below_then HB3.out HB3.out.size hb)
    clear hb
    go_wp2
    go_ret
    exact ⟨ret_bool (by rw [RR.out]), below_then HB.out HB.out.size HB4.out⟩
  · go_enter Try.func14, Try.ntmps14
    go_wp2_with fail
    refine (CX _).out.mono ?_
    rintro r1 w2 ⟨rfl, hb⟩
    rw [← HW.out] at hb
    have HB2 := Side.mk hb
    have u0 := FX.out w2 hb 2 _ rfl
    have u1 := FX.out w2 hb 3 _ rfl
    have u2 := FX.out w2 hb 4 _ rfl
    have u3 := FX.out w2 hb 5 _ rfl
    have v0 := FY.out w2 hb 2 _ rfl
    have v1 := FY.out w2 hb 3 _ rfl
    have v2 := FY.out w2 hb 4 _ rfl
    have v3 := FY.out w2 hb 5 _ rfl
    clear hb
    go_wp2_with fail
    refine (CY _).out.mono ?_
    rintro r2 w3 ⟨rfl, hb⟩
    have HB3 := Side.mk (below_then HB2.out HB2.out.size hb)
    clear u0 u1 u2 u3 v0 v1 v2 v3 hb
    have u0 := FX.out w3 HB3.out 1 _ rfl
    have v0 := FY.out w3 HB3.out 1 _ rfl
    go_wp2
    go_ret
    exact ⟨ret_bool RR.out.symm, below_then HB.out HB.out.size HB3.out⟩
theorem lawless_at (kind d e : Int) (x y : It) (w : World) : Calls Try.prog 14 #[.int .i64 kind, dv d x, dv e y] w fun r w' => r = .returned (.bool (lt kind x y)) ∧ Below w.heap.size w w' := by
  by_cases hk : kind = 2
  · subst hk; exact lawless_time d e x y w
  · exact lawless_rank kind hk d e x y w
end Go.Proofs.Ytiebpmbongmgkaa.HpN
