/- The law evenhandedlaw4.RankOrders: any two ranks, any subtask: which goes first, what its rank is: a walk of the law's own code. No condition. -/
import Derived.Test.YtmjgadhknliiaaaRef4
import Derived.Test.YtmjgadhknliiaaaAw4
import Derived.Deep.RegionWith
set_option linter.unusedVariables false
set_option linter.unusedSimpArgs false
namespace Go.Proofs.Ytmjgadhknliiaaa.OwnOrders
open Go.RowKit Go.Proofs.Ytmjgadhknliiaaa.Kit Go.Proofs.Ytmjgadhknliiaaa.Cmp Go.Proofs.Ytmjgadhknliiaaa.Win Go.Proofs.Ytmjgadhknliiaaa.Rank EvPlain
theorem rcmp_less (x y : R) : decide (rcmp x y < 0) = rless x y := by
  obtain ⟨xd, xb, xg, xi⟩ := x
  obtain ⟨yd, yb, yg, yi⟩ := y
  have c0 : ∀ a b : Int, (cmp3 a b < 0) = (a < b) := fun a b => propext (by unfold cmp3; split <;> (try split) <;> omega)
  have z0 : ∀ a b : Int, (cmp3 a b = 0) = (a = b) := fun a b => propext (by unfold cmp3; split <;> (try split) <;> omega)
  have hb : (yb = xb) = (xb = yb) := propext ⟨Eq.symm, Eq.symm⟩
  have hg : (yg = xg) = (xg = yg) := propext ⟨Eq.symm, Eq.symm⟩
  unfold rcmp c2 c1 rless or2
  dsimp only
  by_cases h1 : xd = yd
  · by_cases h2 : xb = yb
    · by_cases h3 : xb = 1
      · by_cases h4 : xg = yg
        · simp only [z0, hb, hg, h1, h2, h4, if_true, ne_eq, not_true, if_false, and_false, and_true, true_and, c0]; split <;> (try split) <;> simp_all
        · simp only [z0, hb, hg, h1, h2, if_true, ne_eq, not_true, if_false, and_false, and_true, true_and, c0]; split <;> (try split) <;> simp_all
      · simp only [z0, hb, hg, h1, h2, if_true, ne_eq, not_true, if_false, and_false, and_true, true_and, c0]; split <;> (try split) <;> simp_all
    · simp only [z0, hb, hg, h1, h2, if_true, ne_eq, not_true, if_false, and_false, false_and, and_true, true_and, c0, not_false_eq_true]
  · simp only [z0, hb, hg, h1, if_true, ne_eq, not_true, if_false, and_false, false_and, and_true, true_and, c0, not_false_eq_true]
theorem rof_ofq (e p i r id : Int) (h1 : -1099511627776 ≤ r) (h2 : r ≤ 1099511627776) : rof e p i r id = ofq e p i r id := by
  unfold rof ofq
  by_cases h : T e p i
  · rw [if_pos h, if_pos h, Int.add_comm r, Int.add_comm r]
    by_cases hg : 0 < group e p i
    · rw [if_pos hg, if_pos hg]
    · rw [if_neg hg, if_neg hg]
      have : group e p i = 0 := by
        unfold group at hg ⊢
        split at hg
        · rename_i hh
          have := hh.1.grp_le hh.2.2; have := hh.1.dl_le
          omega
        · rename_i hh; rw [if_neg hh]
      rw [this]
  · rw [if_neg h, if_neg h]
set_option maxHeartbeats 2000000 in
set_option maxRecDepth 100000 in
theorem core (x y : R) (n0 n1 n2 n3 n4 : Int) (q : R) (l : Bool) (w : World)
    (AW : ∀ w, Side (Calls Try.prog 8 #[] w fun r w' => r = .returned (.bool true) ∧ Below w.heap.size w w'))
    (OF : ∀ w, Side (Calls Try.prog 9 #[.int .i64 n0, .int .i64 n1, .int .i64 n2, .int .i64 n3, .int .i64 n4] w fun r w' => r = .returned (.agg #[.int .i64 q.d, .int .i64 q.b, .int .i64 q.g, .int .i64 q.i]) ∧ Below w.heap.size w w'))
    (hc : decide (n3 < -1099511627776) = true ∨ (decide (n3 < -1099511627776) = false ∧ decide (1099511627776 < n3) = true)) :
    Calls Try.prog 3 #[x.v, y.v, .agg #[.int .i64 n0, .int .i64 n1, .int .i64 n2, .int .i64 n3, .int .i64 n4]] w fun r w' => r = .returned (.bool true) ∧ Below w.heap.size w w' := by
  obtain ⟨xd, xb, xg, xi⟩ := x
  obtain ⟨yd, yb, yg, yi⟩ := y
  obtain ⟨qd, qb, qg, qi⟩ := q
  rcases hc with b1 | ⟨b1, b2⟩
  all_goals
    go_enter Try.func3, Try.ntmps3
    go_wp2_with fail
    refine (AW _).out.mono ?_
    rintro e w1 ⟨rfl, h1⟩
    obtain ⟨hc1, hf1⟩ := bcell h1
    go_wp2_with fail
    refine (OF _).out.mono ?_
    rintro e w2 ⟨rfl, h2⟩
    obtain ⟨hc2, hf2⟩ := bcell h2
    have z1 := h1.size
    have z2 := h2.size
    simp at z1
    have k3 : w2.cell? ⟨w.heap.size + 1 + 1, 3, none⟩ = some (.int .i64 n3) := (hc2 _ _ (by omega)).trans ((hc1 _ _ (by simp)).trans (by go_simp))
    have y3 : w.heap.size + 1 + 1 < w2.heap.size := by omega
    clear hc1 hf1 hc2 hf2
    go_wp2
    go_ret
    refine ⟨rfl, ?_⟩
    have g1 : Below w.heap.size w w1 := by
      refine below_then ?_ ?_ h1
      · (repeat (with_reducible first | exact Below.refl _ _ | apply below_drewN | apply below_drew | apply below_alloc))
      · simp; omega
    have g2 := below_then g1 g1.size h2
    (repeat (with_reducible first | exact g2 | apply below_drewN | apply below_drew | apply below_alloc | refine Below.setCell ?_ ?_ _))
theorem keepB {w w2 W : World} {xd xb xg xi yd yb yg yi qd qb qg qi n0 n1 n2 n3 n4 : Int} (hS : W.cell? ⟨w.heap.size, 0, none⟩ = some (.int .i64 xd) ∧ W.cell? ⟨w.heap.size, 1, none⟩ = some (.int .i64 xb) ∧ W.cell? ⟨w.heap.size, 2, none⟩ = some (.int .i64 xg) ∧ W.cell? ⟨w.heap.size, 3, none⟩ = some (.int .i64 xi) ∧ W.cell? ⟨w.heap.size + 1, 0, none⟩ = some (.int .i64 yd) ∧ W.cell? ⟨w.heap.size + 1, 1, none⟩ = some (.int .i64 yb) ∧ W.cell? ⟨w.heap.size + 1, 2, none⟩ = some (.int .i64 yg) ∧ W.cell? ⟨w.heap.size + 1, 3, none⟩ = some (.int .i64 yi) ∧ W.cell? ⟨w.heap.size + 1 + 1, 0, none⟩ = some (.int .i64 n0) ∧ W.cell? ⟨w.heap.size + 1 + 1, 1, none⟩ = some (.int .i64 n1) ∧ W.cell? ⟨w.heap.size + 1 + 1, 2, none⟩ = some (.int .i64 n2) ∧ W.cell? ⟨w.heap.size + 1 + 1, 3, none⟩ = some (.int .i64 n3) ∧ W.cell? ⟨w.heap.size + 1 + 1, 4, none⟩ = some (.int .i64 n4) ∧ W.cell? ⟨w2.heap.size, 0, none⟩ = some (.int .i64 qd) ∧ W.cell? ⟨w2.heap.size, 1, none⟩ = some (.int .i64 qb) ∧ W.cell? ⟨w2.heap.size, 2, none⟩ = some (.int .i64 qg) ∧ W.cell? ⟨w2.heap.size, 3, none⟩ = some (.int .i64 qi) ∧ Below w.heap.size w W ∧ w2.heap.size < W.heap.size) : Below w.heap.size w W := by
  obtain ⟨s0, s1, s2, s3, s4, s5, s6, s7, s8, s9, s10, s11, s12, s13, s14, s15, s16, s17, s18⟩ := hS
  exact s17
theorem keepS {w w2 W wc : World} {xd xb xg xi yd yb yg yi qd qb qg qi n0 n1 n2 n3 n4 : Int} (y : w.heap.size + 1 + 1 < w2.heap.size) (hbc : Below W.heap.size W wc) (hS : W.cell? ⟨w.heap.size, 0, none⟩ = some (.int .i64 xd) ∧ W.cell? ⟨w.heap.size, 1, none⟩ = some (.int .i64 xb) ∧ W.cell? ⟨w.heap.size, 2, none⟩ = some (.int .i64 xg) ∧ W.cell? ⟨w.heap.size, 3, none⟩ = some (.int .i64 xi) ∧ W.cell? ⟨w.heap.size + 1, 0, none⟩ = some (.int .i64 yd) ∧ W.cell? ⟨w.heap.size + 1, 1, none⟩ = some (.int .i64 yb) ∧ W.cell? ⟨w.heap.size + 1, 2, none⟩ = some (.int .i64 yg) ∧ W.cell? ⟨w.heap.size + 1, 3, none⟩ = some (.int .i64 yi) ∧ W.cell? ⟨w.heap.size + 1 + 1, 0, none⟩ = some (.int .i64 n0) ∧ W.cell? ⟨w.heap.size + 1 + 1, 1, none⟩ = some (.int .i64 n1) ∧ W.cell? ⟨w.heap.size + 1 + 1, 2, none⟩ = some (.int .i64 n2) ∧ W.cell? ⟨w.heap.size + 1 + 1, 3, none⟩ = some (.int .i64 n3) ∧ W.cell? ⟨w.heap.size + 1 + 1, 4, none⟩ = some (.int .i64 n4) ∧ W.cell? ⟨w2.heap.size, 0, none⟩ = some (.int .i64 qd) ∧ W.cell? ⟨w2.heap.size, 1, none⟩ = some (.int .i64 qb) ∧ W.cell? ⟨w2.heap.size, 2, none⟩ = some (.int .i64 qg) ∧ W.cell? ⟨w2.heap.size, 3, none⟩ = some (.int .i64 qi) ∧ Below w.heap.size w W ∧ w2.heap.size < W.heap.size) :
    wc.cell? ⟨w.heap.size, 0, none⟩ = some (.int .i64 xd) ∧ wc.cell? ⟨w.heap.size, 1, none⟩ = some (.int .i64 xb) ∧ wc.cell? ⟨w.heap.size, 2, none⟩ = some (.int .i64 xg) ∧ wc.cell? ⟨w.heap.size, 3, none⟩ = some (.int .i64 xi) ∧ wc.cell? ⟨w.heap.size + 1, 0, none⟩ = some (.int .i64 yd) ∧ wc.cell? ⟨w.heap.size + 1, 1, none⟩ = some (.int .i64 yb) ∧ wc.cell? ⟨w.heap.size + 1, 2, none⟩ = some (.int .i64 yg) ∧ wc.cell? ⟨w.heap.size + 1, 3, none⟩ = some (.int .i64 yi) ∧ wc.cell? ⟨w.heap.size + 1 + 1, 0, none⟩ = some (.int .i64 n0) ∧ wc.cell? ⟨w.heap.size + 1 + 1, 1, none⟩ = some (.int .i64 n1) ∧ wc.cell? ⟨w.heap.size + 1 + 1, 2, none⟩ = some (.int .i64 n2) ∧ wc.cell? ⟨w.heap.size + 1 + 1, 3, none⟩ = some (.int .i64 n3) ∧ wc.cell? ⟨w.heap.size + 1 + 1, 4, none⟩ = some (.int .i64 n4) ∧ wc.cell? ⟨w2.heap.size, 0, none⟩ = some (.int .i64 qd) ∧ wc.cell? ⟨w2.heap.size, 1, none⟩ = some (.int .i64 qb) ∧ wc.cell? ⟨w2.heap.size, 2, none⟩ = some (.int .i64 qg) ∧ wc.cell? ⟨w2.heap.size, 3, none⟩ = some (.int .i64 qi) ∧ Below w.heap.size w wc ∧ w2.heap.size < wc.heap.size := by
  obtain ⟨s0, s1, s2, s3, s4, s5, s6, s7, s8, s9, s10, s11, s12, s13, s14, s15, s16, s17, s18⟩ := hS
  have hcc := (bcell hbc).1
  refine ⟨(hcc _ _ (by omega)).trans s0, (hcc _ _ (by omega)).trans s1, (hcc _ _ (by omega)).trans s2, (hcc _ _ (by omega)).trans s3, (hcc _ _ (by omega)).trans s4, (hcc _ _ (by omega)).trans s5, (hcc _ _ (by omega)).trans s6, (hcc _ _ (by omega)).trans s7, (hcc _ _ (by omega)).trans s8, (hcc _ _ (by omega)).trans s9, (hcc _ _ (by omega)).trans s10, (hcc _ _ (by omega)).trans s11, (hcc _ _ (by omega)).trans s12, (hcc _ _ (by omega)).trans s13, (hcc _ _ (by omega)).trans s14, (hcc _ _ (by omega)).trans s15, (hcc _ _ (by omega)).trans s16, below_then s17 s17.size hbc, ?_⟩
  have := hbc.size; omega
set_option maxHeartbeats 16000000 in
set_option maxRecDepth 100000 in
theorem core2 (x y : R) (n0 n1 n2 n3 n4 : Int) (q : R) (l : Bool) (w : World)
    (AW : ∀ w, Side (Calls Try.prog 8 #[] w fun r w' => r = .returned (.bool true) ∧ Below w.heap.size w w'))
    (OF : ∀ w, Side (Calls Try.prog 9 #[.int .i64 n0, .int .i64 n1, .int .i64 n2, .int .i64 n3, .int .i64 n4] w fun r w' => r = .returned (.agg #[.int .i64 q.d, .int .i64 q.b, .int .i64 q.g, .int .i64 q.i]) ∧ Below w.heap.size w w'))
    (RO : ∀ w, Side (Calls Try.prog 13 #[.int .i64 n0, .int .i64 n1, .int .i64 n2, .int .i64 n3, .int .i64 n4] w fun r w' => r = .returned (.agg #[.int .i64 q.d, .int .i64 q.b, .int .i64 q.g, .int .i64 q.i]) ∧ Below w.heap.size w w'))
    (LE : ∀ w, Side (Calls Try.prog 10 #[.agg #[.int .i64 x.d, .int .i64 x.b, .int .i64 x.g, .int .i64 x.i], .agg #[.int .i64 y.d, .int .i64 y.b, .int .i64 y.g, .int .i64 y.i]] w fun r w' => r = .returned (.bool l) ∧ Below w.heap.size w w'))
    (RL : ∀ w, Side (Calls Try.prog 12 #[.agg #[.int .i64 x.d, .int .i64 x.b, .int .i64 x.g, .int .i64 x.i], .agg #[.int .i64 y.d, .int .i64 y.b, .int .i64 y.g, .int .i64 y.i]] w fun r w' => r = .returned (.bool l) ∧ Below w.heap.size w w'))
    (MA : ∀ a b c d w, Side (Calls Try.prog 11 #[.agg #[.int .i64 a, .int .i64 b, .int .i64 c, .int .i64 d]] w fun r w' => r = .returned (.agg #[.int .i64 a, .int .i64 b, .int .i64 c, .int .i64 d]) ∧ Below w.heap.size w w'))
    (b1 : decide (n3 < -1099511627776) = false) (b2 : decide (1099511627776 < n3) = false) :
    Calls Try.prog 3 #[x.v, y.v, .agg #[.int .i64 n0, .int .i64 n1, .int .i64 n2, .int .i64 n3, .int .i64 n4]] w fun r w' => r = .returned (.bool true) ∧ Below w.heap.size w w' := by
  obtain ⟨xd, xb, xg, xi⟩ := x
  obtain ⟨yd, yb, yg, yi⟩ := y
  obtain ⟨qd, qb, qg, qi⟩ := q
  dsimp only at OF RO LE RL
  go_enter Try.func3, Try.ntmps3
  go_wp2_with fail
  refine (AW _).out.mono ?_
  rintro e w1 ⟨rfl, h1⟩
  obtain ⟨hc1, hf1⟩ := bcell h1
  go_wp2_with fail
  refine (OF _).out.mono ?_
  rintro e w2 ⟨rfl, h2⟩
  obtain ⟨hc2, hf2⟩ := bcell h2
  have z1 := h1.size
  have z2 := h2.size
  simp at z1
  have k0 : w2.cell? ⟨w.heap.size, 0, none⟩ = some (.int .i64 xd) := (hc2 _ _ (by omega)).trans ((hc1 _ _ (by first | (simp; done) | (simp; omega))).trans (by go_simp))
  have k1 : w2.cell? ⟨w.heap.size, 1, none⟩ = some (.int .i64 xb) := (hc2 _ _ (by omega)).trans ((hc1 _ _ (by first | (simp; done) | (simp; omega))).trans (by go_simp))
  have k2 : w2.cell? ⟨w.heap.size, 2, none⟩ = some (.int .i64 xg) := (hc2 _ _ (by omega)).trans ((hc1 _ _ (by first | (simp; done) | (simp; omega))).trans (by go_simp))
  have k3 : w2.cell? ⟨w.heap.size, 3, none⟩ = some (.int .i64 xi) := (hc2 _ _ (by omega)).trans ((hc1 _ _ (by first | (simp; done) | (simp; omega))).trans (by go_simp))
  have k4 : w2.cell? ⟨w.heap.size + 1, 0, none⟩ = some (.int .i64 yd) := (hc2 _ _ (by omega)).trans ((hc1 _ _ (by first | (simp; done) | (simp; omega))).trans (by go_simp))
  have k5 : w2.cell? ⟨w.heap.size + 1, 1, none⟩ = some (.int .i64 yb) := (hc2 _ _ (by omega)).trans ((hc1 _ _ (by first | (simp; done) | (simp; omega))).trans (by go_simp))
  have k6 : w2.cell? ⟨w.heap.size + 1, 2, none⟩ = some (.int .i64 yg) := (hc2 _ _ (by omega)).trans ((hc1 _ _ (by first | (simp; done) | (simp; omega))).trans (by go_simp))
  have k7 : w2.cell? ⟨w.heap.size + 1, 3, none⟩ = some (.int .i64 yi) := (hc2 _ _ (by omega)).trans ((hc1 _ _ (by first | (simp; done) | (simp; omega))).trans (by go_simp))
  have k8 : w2.cell? ⟨w.heap.size + 1 + 1, 0, none⟩ = some (.int .i64 n0) := (hc2 _ _ (by omega)).trans ((hc1 _ _ (by first | (simp; done) | (simp; omega))).trans (by go_simp))
  have k9 : w2.cell? ⟨w.heap.size + 1 + 1, 1, none⟩ = some (.int .i64 n1) := (hc2 _ _ (by omega)).trans ((hc1 _ _ (by first | (simp; done) | (simp; omega))).trans (by go_simp))
  have k10 : w2.cell? ⟨w.heap.size + 1 + 1, 2, none⟩ = some (.int .i64 n2) := (hc2 _ _ (by omega)).trans ((hc1 _ _ (by first | (simp; done) | (simp; omega))).trans (by go_simp))
  have k11 : w2.cell? ⟨w.heap.size + 1 + 1, 3, none⟩ = some (.int .i64 n3) := (hc2 _ _ (by omega)).trans ((hc1 _ _ (by first | (simp; done) | (simp; omega))).trans (by go_simp))
  have k12 : w2.cell? ⟨w.heap.size + 1 + 1, 4, none⟩ = some (.int .i64 n4) := (hc2 _ _ (by omega)).trans ((hc1 _ _ (by first | (simp; done) | (simp; omega))).trans (by go_simp))
  have y3 : w.heap.size + 1 + 1 < w2.heap.size := by omega
  have y2 : w.heap.size + 1 < w2.heap.size := by omega
  have y1 : w.heap.size < w2.heap.size := by omega
  have g1 : Below w.heap.size w w1 := by
    refine below_then ?_ ?_ h1
    · (repeat (with_reducible first | exact Below.refl _ _ | apply below_drewN | apply below_drew | apply below_alloc))
    · simp; omega
  have g2 := Side.mk (below_then g1 g1.size h2)
  clear hc1 hf1 hc2 hf2 h1 h2 g1 z1 z2
  go_wp2_with fail
  go_region_held3 (fun w' => w'.cell? ⟨w.heap.size, 0, none⟩ = some (.int .i64 xd) ∧ w'.cell? ⟨w.heap.size, 1, none⟩ = some (.int .i64 xb) ∧ w'.cell? ⟨w.heap.size, 2, none⟩ = some (.int .i64 xg) ∧ w'.cell? ⟨w.heap.size, 3, none⟩ = some (.int .i64 xi) ∧ w'.cell? ⟨w.heap.size + 1, 0, none⟩ = some (.int .i64 yd) ∧ w'.cell? ⟨w.heap.size + 1, 1, none⟩ = some (.int .i64 yb) ∧ w'.cell? ⟨w.heap.size + 1, 2, none⟩ = some (.int .i64 yg) ∧ w'.cell? ⟨w.heap.size + 1, 3, none⟩ = some (.int .i64 yi) ∧ w'.cell? ⟨w.heap.size + 1 + 1, 0, none⟩ = some (.int .i64 n0) ∧ w'.cell? ⟨w.heap.size + 1 + 1, 1, none⟩ = some (.int .i64 n1) ∧ w'.cell? ⟨w.heap.size + 1 + 1, 2, none⟩ = some (.int .i64 n2) ∧ w'.cell? ⟨w.heap.size + 1 + 1, 3, none⟩ = some (.int .i64 n3) ∧ w'.cell? ⟨w.heap.size + 1 + 1, 4, none⟩ = some (.int .i64 n4) ∧ w'.cell? ⟨w2.heap.size, 0, none⟩ = some (.int .i64 qd) ∧ w'.cell? ⟨w2.heap.size, 1, none⟩ = some (.int .i64 qb) ∧ w'.cell? ⟨w2.heap.size, 2, none⟩ = some (.int .i64 qg) ∧ w'.cell? ⟨w2.heap.size, 3, none⟩ = some (.int .i64 qi) ∧ Below w.heap.size w w' ∧ w2.heap.size < w'.heap.size)
    (first
      | exact keepS y3 hbc (by assumption)
      | (refine ⟨?_, ?_, ?_, ?_, ?_, ?_, ?_, ?_, ?_, ?_, ?_, ?_, ?_, ?_, ?_, ?_, ?_, ?_, ?_⟩ <;> first | (go_simp; done) | (go_simp; assumption) | (simp; done) | (repeat (with_reducible first | exact g2.out | apply below_drewN | apply below_drew | apply below_alloc))))
    (first
      | (go_at_call 11; (with_reducible refine (MA _ _ _ _ _).out.mono ?_); rintro e wc ⟨rfl, hbc⟩)
      | (go_at_call 10; (with_reducible refine (LE _).out.mono ?_); rintro e wc ⟨rfl, hbc⟩)
      | (go_at_call 12; (with_reducible refine (RL _).out.mono ?_); rintro e wc ⟨rfl, hbc⟩)
      | (go_at_call 13; (with_reducible refine (RO _).out.mono ?_); rintro e wc ⟨rfl, hbc⟩))
  have hB := keepB (by assumption)
  go_wp2
  go_ret
  exact ⟨rfl, hB⟩
theorem walk (a0 a1 a2 a3 b0 b1 b2 b3 n0 n1 n2 n3 n4 : Int) (w : World) (_ : (Lit.int .i64 a0).wf = true) (_ : (Lit.int .i64 a1).wf = true) (_ : (Lit.int .i64 a2).wf = true) (_ : (Lit.int .i64 a3).wf = true)
    (_ : (Lit.int .i64 b0).wf = true) (_ : (Lit.int .i64 b1).wf = true) (_ : (Lit.int .i64 b2).wf = true) (_ : (Lit.int .i64 b3).wf = true)
    (_ : (Lit.int .i64 n0).wf = true) (_ : (Lit.int .i64 n1).wf = true) (_ : (Lit.int .i64 n2).wf = true) (_ : (Lit.int .i64 n3).wf = true) (_ : (Lit.int .i64 n4).wf = true) :
    Calls Try.prog 3 #[.agg #[.int .i64 a0, .int .i64 a1, .int .i64 a2, .int .i64 a3], .agg #[.int .i64 b0, .int .i64 b1, .int .i64 b2, .int .i64 b3], .agg #[.int .i64 n0, .int .i64 n1, .int .i64 n2, .int .i64 n3, .int .i64 n4]] w fun r w' => r = .returned (.bool true) ∧ Below w.heap.size w w' := by
  have AW := fun w => Side.mk (awake_at w)
  have OF := fun w => Side.mk (Of_at n0 n1 n2 n3 n4 w)
  by_cases h1 : n3 < -1099511627776
  · exact core ⟨a0, a1, a2, a3⟩ ⟨b0, b1, b2, b3⟩ n0 n1 n2 n3 n4 _ true w AW OF (.inl (decide_eq_true h1))
  · by_cases h2 : 1099511627776 < n3
    · exact core ⟨a0, a1, a2, a3⟩ ⟨b0, b1, b2, b3⟩ n0 n1 n2 n3 n4 _ true w AW OF (.inr ⟨decide_eq_false h1, decide_eq_true h2⟩)
    · refine core2 ⟨a0, a1, a2, a3⟩ ⟨b0, b1, b2, b3⟩ n0 n1 n2 n3 n4 (ofq n0 n1 n2 n3 n4) (rless ⟨a0, a1, a2, a3⟩ ⟨b0, b1, b2, b3⟩) w AW OF (fun w => ⟨?_⟩) (fun w => ⟨?_⟩) (fun w => ⟨RankLess_at ⟨a0, a1, a2, a3⟩ ⟨b0, b1, b2, b3⟩ w⟩) (fun a b c d w => ⟨Made_at ⟨a, b, c, d⟩ w⟩) (decide_eq_false h1) (decide_eq_false h2)
      · have := RankOf_at n0 n1 n2 n3 n4 w
        rw [rof_ofq _ _ _ _ _ (by omega) (by omega)] at this
        exact this
      · have := Less_at ⟨a0, a1, a2, a3⟩ ⟨b0, b1, b2, b3⟩ w
        rw [rcmp_less] at this
        exact this
end Go.Proofs.Ytmjgadhknliiaaa.OwnOrders
