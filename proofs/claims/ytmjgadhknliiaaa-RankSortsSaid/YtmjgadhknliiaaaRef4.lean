/- The reference's functions of chapters 3 and 4, walked by hand: TaskMay, Window, RankOf, RankLess; and the law's Made. No condition. -/
import Derived.Test.YtmjgadhknliiaaaRank
set_option linter.unusedVariables false
set_option linter.unusedSimpArgs false
namespace Go.Proofs.Ytmjgadhknliiaaa.Rank
open Go.RowKit Go.Proofs.Ytmjgadhknliiaaa.Kit Go.Proofs.Ytmjgadhknliiaaa.Cmp Go.Proofs.Ytmjgadhknliiaaa.Win EvPlain
set_option maxRecDepth 100000 in
theorem TaskMay_at (e p : Int) (w : World) : Calls Try.prog 14 #[.int .i64 e, .int .i64 p] w fun r w' => r = .returned (.bool (decide (1 ≤ e ∧ e ≤ p ∧ p ≤ 1048575))) ∧ Still w w' := by
  have hc : (decide (1 ≤ p) = false ∧ Side (false = decide (1 ≤ e ∧ e ≤ p ∧ p ≤ 1048575))) ∨ (decide (1 ≤ p) = true ∧ decide (p ≤ 1048575) = false ∧ Side (false = decide (1 ≤ e ∧ e ≤ p ∧ p ≤ 1048575)))
      ∨ (decide (1 ≤ p) = true ∧ decide (p ≤ 1048575) = true ∧ decide (1 ≤ e) = false ∧ Side (false = decide (1 ≤ e ∧ e ≤ p ∧ p ≤ 1048575))) ∨ (decide (1 ≤ p) = true ∧ decide (p ≤ 1048575) = true ∧ decide (1 ≤ e) = true ∧ Side (decide (e ≤ p) = decide (1 ≤ e ∧ e ≤ p ∧ p ≤ 1048575))) := by
    by_cases h1 : 1 ≤ p
    · by_cases h2 : p ≤ 1048575
      · by_cases h3 : 1 ≤ e
        · exact .inr (.inr (.inr ⟨decide_eq_true h1, decide_eq_true h2, decide_eq_true h3, ⟨decide_eq_decide.2 (by omega)⟩⟩))
        · exact .inr (.inr (.inl ⟨decide_eq_true h1, decide_eq_true h2, decide_eq_false h3, ⟨(decide_eq_false (by omega)).symm⟩⟩))
      · exact .inr (.inl ⟨decide_eq_true h1, decide_eq_false h2, ⟨(decide_eq_false (by omega)).symm⟩⟩)
    · exact .inl ⟨decide_eq_false h1, ⟨(decide_eq_false (by omega)).symm⟩⟩
  rcases hc with ⟨b1, R⟩ | ⟨b1, b2, R⟩ | ⟨b1, b2, b3, R⟩ | ⟨b1, b2, b3, R⟩
  all_goals
    go_enter Try.func14, Try.ntmps14
    go_wp2
    go_ret
    exact ⟨ret_bool R.out, Still.refl w⟩
set_option maxHeartbeats 1000000 in
set_option maxRecDepth 100000 in
theorem Window_no (e p i : Int) (w : World) (h : ¬ T e p i) : Calls Try.prog 21 #[.int .i64 e, .int .i64 p, .int .i64 i] w fun x w' => x = .returned (.tuple #[.int .i64 0, .int .i64 0, .int .i64 0, .int .i64 0]) ∧ Still w w' := by
  have hc : (∀ w, Side (Calls Try.prog 14 #[.int .i64 e, .int .i64 p] w fun r w' => r = .returned (.bool false) ∧ Still w w')) ∨
      ((∀ w, Side (Calls Try.prog 14 #[.int .i64 e, .int .i64 p] w fun r w' => r = .returned (.bool true) ∧ Still w w')) ∧ (decide (i < 1) = true ∨ (decide (i < 1) = false ∧ decide (e < i) = true))) := by
    rw [T_iff] at h
    by_cases ht : 1 ≤ e ∧ e ≤ p ∧ p ≤ 1048575
    · refine .inr ⟨fun w => ⟨by have := TaskMay_at e p w; rw [decide_eq_true ht] at this; exact this⟩, ?_⟩
      by_cases h1 : i < 1
      · exact .inl (decide_eq_true h1)
      · exact .inr ⟨decide_eq_false h1, decide_eq_true (by omega)⟩
    · exact .inl fun w => ⟨by have := TaskMay_at e p w; rw [decide_eq_false ht] at this; exact this⟩
  clear h
  rcases hc with M | ⟨M, b1 | ⟨b1, b2⟩⟩
  all_goals
    go_enter Try.func21, Try.ntmps21
    go_wp2_with (((with_reducible refine (M _).out.mono ?_); rintro q w' ⟨rfl, n, rfl⟩))
    refine bodyPost_ret (results_tmp4 rfl _ _ _) rfl ?_
    exact ⟨rfl, _, rfl⟩
set_option maxHeartbeats 1000000 in
set_option maxRecDepth 100000 in
theorem Window_core (e p i rv dv hv gv : Int) (w : World) (M : ∀ w, Side (Calls Try.prog 14 #[.int .i64 e, .int .i64 p] w fun r w' => r = .returned (.bool true) ∧ Still w w')) (b1 : decide (i < 1) = false) (b2 : decide (e < i) = false) (e0 : ¬ e = 0)
    (hR : wrap64 (Int.tdiv (wrap64 ((wrap64 (i - 1)) * p)) e) = rv) (hD : wrap64 (Int.tdiv (wrap64 ((wrap64 ((wrap64 (i * p)) + e)) - 1)) e) = dv)
    (hH : wrap64 (Int.tdiv (wrap64 ((wrap64 ((wrap64 (dv * (wrap64 (p - e)))) + p)) - 1)) p) = hv) (hG : wrap64 (Int.tdiv (wrap64 ((wrap64 ((wrap64 (hv * p)) + (wrap64 (p - e)))) - 1)) (wrap64 (p - e))) = gv)
    (z : Bool) (hz : (Int.tmod (wrap64 (i * p)) e != 0) = z) (lo eq : Bool) (h1 : decide (wrap64 (2 * e) < p) = lo) (h2 : (e == p) = eq) (p0 : ¬ p = 0) (pe0 : lo = false → eq = false → ¬ wrap64 (p - e) = 0) :
    Calls Try.prog 21 #[.int .i64 e, .int .i64 p, .int .i64 i] w fun x w' => x = .returned (.tuple #[.int .i64 rv, .int .i64 dv, .int .i64 (if z = true then 1 else 0), .int .i64 (if lo = true ∨ eq = true then 0 else gv)]) ∧ Still w w' := by
  cases z <;> cases lo <;> cases eq
  all_goals
    first
      | have pe1 := pe0 rfl rfl
      | skip
    clear pe0
    go_enter Try.func21, Try.ntmps21
    go_wp2_with (((with_reducible refine (M _).out.mono ?_); rintro q w' ⟨rfl, n, rfl⟩))
    repeat (go_quiet (fail); try go_wp2)
    refine bodyPost_ret (results_tmp4 rfl _ _ _) rfl ?_
    exact ⟨by simp, _, rfl⟩
theorem Window_at (e p i rv dv bv gv : Int) (w : World) (h : T e p i) (h1 : rv = rel e p i) (h2 : dv = dead e p i) (h3 : bv = bit e p i) (h4 : gv = group e p i) :
    Calls Try.prog 21 #[.int .i64 e, .int .i64 p, .int .i64 i] w fun x w' => x = .returned (.tuple #[.int .i64 rv, .int .i64 dv, .int .i64 bv, .int .i64 gv]) ∧ Still w w' := by
  have e1 := h.e1; have ep := h.ep; have pm := h.pm; have i1 := h.i1; have ie := h.ie
  have g1 := h.ip; have g2 := h.ip1; have g3 := h.dl_le; have g4 := h.rel_le; have g5 := h.hol_le
  have hR : wrap64 (Int.tdiv (wrap64 ((wrap64 (i - 1)) * p)) e) = rel e p i := by
    rw [Kit.wr (x := i - 1) (by omega) (by omega), Kit.wr (x := (i - 1) * p) (by omega) (by omega), Kit.td g2.1]
    exact Kit.wr (x := rel e p i) (by omega) (by omega)
  have hD : wrap64 (Int.tdiv (wrap64 ((wrap64 ((wrap64 (i * p)) + e)) - 1)) e) = dl e p i := by
    rw [Kit.wr (x := i * p) (by omega) (by omega), Kit.wr (x := i * p + e) (by omega) (by omega), Kit.wr (x := i * p + e - 1) (by omega) (by omega), Kit.td (by omega)]
    exact Kit.wr (x := dl e p i) (by omega) (by omega)
  have hsub : wrap64 (p - e) = p - e := Kit.wr (by omega) (by omega)
  have h6 := mul_bound (a := dl e p i) (b := p - e) (A := 1048575) (B := 1048575) (by omega) (by omega) (by omega) (by omega)
  have h7 := mul_bound (a := hol e p i) (b := p) (A := 1048575) (B := 1048575) (by omega) (by omega) (by omega) (by omega)
  have hH : wrap64 (Int.tdiv (wrap64 ((wrap64 ((wrap64 (dl e p i * (wrap64 (p - e)))) + p)) - 1)) p) = hol e p i := by
    rw [hsub, Kit.wr (x := dl e p i * (p - e)) (by omega) (by omega), Kit.wr (x := dl e p i * (p - e) + p) (by omega) (by omega), Kit.wr (x := dl e p i * (p - e) + p - 1) (by omega) (by omega), Kit.td (by omega)]
    exact Kit.wr (x := hol e p i) (by omega) (by omega)
  have M : ∀ w, Side (Calls Try.prog 14 #[.int .i64 e, .int .i64 p] w fun r w' => r = .returned (.bool true) ∧ Still w w') := fun w => ⟨by
    have := TaskMay_at e p w; rw [decide_eq_true ⟨e1, ep, pm⟩] at this; exact this⟩
  have core := Window_core e p i (rel e p i) (dl e p i) (hol e p i) _ w M (decide_eq_false (by omega)) (decide_eq_false (by omega)) (by omega) hR hD hH rfl _ rfl _ _ rfl rfl (by omega) (fun a b => by
    rw [hsub]; have := of_decide_eq_false a; have := beq_eq_false_iff_ne.1 b; omega)
  refine core.mono fun x w' hx => ⟨hx.1.trans ?_, hx.2⟩
  have e2 : wrap64 (2 * e) = 2 * e := Kit.wr (by omega) (by omega)
  have hb : (if (Int.tmod (wrap64 (i * p)) e != 0) = true then (1 : Int) else 0) = bv := by
    rw [h3]; unfold bit
    rw [if_pos h, Kit.wr (x := i * p) (by omega) (by omega), Kit.tm (by omega)]
    by_cases hz : i * p % e = 0
    · rw [if_pos hz, if_neg (by rw [bne_iff_ne]; exact fun x => x hz)]
    · rw [if_neg hz, if_pos (by rw [bne_iff_ne]; exact hz)]
  rw [hb, h1, h2, dead_yes h]
  have hgq : (if decide (wrap64 (2 * e) < p) = true ∨ (e == p) = true then 0 else wrap64 (Int.tdiv (wrap64 ((wrap64 ((wrap64 (hol e p i * p)) + (wrap64 (p - e)))) - 1)) (wrap64 (p - e)))) = gv := by
    rw [h4]; unfold group
    simp only [e2, decide_eq_true_eq, beq_iff_eq]
    by_cases hl : p ≤ 2 * e ∧ e < p
    · rw [if_neg (show ¬ (2 * e < p ∨ e = p) by omega), if_pos ⟨h, hl⟩, hsub, Kit.wr (x := hol e p i * p) (by omega) (by omega), Kit.wr (x := hol e p i * p + (p - e)) (by omega) (by omega), Kit.wr (x := hol e p i * p + (p - e) - 1) (by omega) (by omega), Kit.td (by omega)]
      have := h.grp_le hl.2
      exact Kit.wr (x := grp e p i) (by omega) (by omega)
    · rw [if_pos (show 2 * e < p ∨ e = p by omega), if_neg (fun x => hl x.2)]
  rw [hgq]
def rof (e p i r id : Int) : R := if T e p i then ⟨wrap64 (dead e p i + r), bit e p i, if 0 < group e p i then wrap64 (group e p i + r) else group e p i, id⟩ else ⟨0, 0, 0, id⟩
set_option maxHeartbeats 1000000 in
set_option maxRecDepth 100000 in
theorem RankOf_core (e p i r id rv d b g : Int) (w : World) (M : ∀ w, Side (Calls Try.prog 21 #[.int .i64 e, .int .i64 p, .int .i64 i] w fun x w' => x = .returned (.tuple #[.int .i64 rv, .int .i64 d, .int .i64 b, .int .i64 g]) ∧ Still w w')) (h0 : (d == 0) = false) (s : Bool) (h1 : decide (0 < g) = s) :
    Calls Try.prog 13 #[.int .i64 e, .int .i64 p, .int .i64 i, .int .i64 r, .int .i64 id] w fun x w' => x = .returned (.agg #[.int .i64 (wrap64 (d + r)), .int .i64 b, .int .i64 (if s = true then wrap64 (g + r) else g), .int .i64 id]) ∧ Below w.heap.size w w' := by
  cases s
  all_goals
    go_enter Try.func13, Try.ntmps13
    go_wp2_with fail
    refine (M _).out.mono ?_
    rintro q w' ⟨rfl, n, rfl⟩
    go_wp2_with fail
    exact bodyPost_ret (by simp [results, Try.results13, go_sem] <;> rfl) rfl ⟨by simp, by (repeat (with_reducible first | exact Below.refl _ _ | apply below_drewN | apply below_drew | apply below_alloc | refine Below.setCell ?_ ?_ _)) <;> simp⟩
set_option maxRecDepth 100000 in
theorem RankOf_no (e p i r id : Int) (w : World) (M : ∀ w, Side (Calls Try.prog 21 #[.int .i64 e, .int .i64 p, .int .i64 i] w fun x w' => x = .returned (.tuple #[.int .i64 0, .int .i64 0, .int .i64 0, .int .i64 0]) ∧ Still w w')) :
    Calls Try.prog 13 #[.int .i64 e, .int .i64 p, .int .i64 i, .int .i64 r, .int .i64 id] w fun x w' => x = .returned (.agg #[.int .i64 0, .int .i64 0, .int .i64 0, .int .i64 id]) ∧ Below w.heap.size w w' := by
  go_enter Try.func13, Try.ntmps13
  go_wp2_with fail
  refine (M _).out.mono ?_
  rintro q w' ⟨rfl, n, rfl⟩
  go_wp2_with fail
  exact bodyPost_ret (by simp [results, Try.results13, go_sem] <;> rfl) rfl ⟨rfl, by (repeat (with_reducible first | exact Below.refl _ _ | apply below_drewN | apply below_drew | apply below_alloc | refine Below.setCell ?_ ?_ _)) <;> simp⟩
theorem RankOf_at (e p i r id : Int) (w : World) : Calls Try.prog 13 #[.int .i64 e, .int .i64 p, .int .i64 i, .int .i64 r, .int .i64 id] w fun x w' => x = .returned (rof e p i r id).v ∧ Below w.heap.size w w' := by
  by_cases h : T e p i
  · have hd : dead e p i ≠ 0 := by rw [dead_yes h]; have := h.dl_le; omega
    have hR : (rof e p i r id).v = .agg #[.int .i64 (wrap64 (dead e p i + r)), .int .i64 (bit e p i), .int .i64 (if decide (0 < group e p i) = true then wrap64 (group e p i + r) else group e p i), .int .i64 id] := by
      unfold rof R.v; rw [if_pos h]; simp only [decide_eq_true_eq]
    rw [hR]
    exact RankOf_core e p i r id _ _ _ _ w (fun w => ⟨Window_at e p i _ _ _ _ w h rfl rfl rfl rfl⟩) (beq_eq_false_iff_ne.2 hd) _ rfl
  · have hR : (rof e p i r id).v = .agg #[.int .i64 0, .int .i64 0, .int .i64 0, .int .i64 id] := by unfold rof R.v; rw [if_neg h]
    rw [hR]
    exact RankOf_no e p i r id w (fun w => ⟨Window_no e p i w h⟩)
set_option maxRecDepth 100000 in
theorem Made_at (x : R) (w : World) : Calls Try.prog 11 #[x.v] w fun r w' => r = .returned x.v ∧ Below w.heap.size w w' := by
  obtain ⟨xd, xb, xg, xi⟩ := x
  go_enter Try.func11, Try.ntmps11
  go_wp2
  exact bodyPost_ret (by simp [results, Try.results11, go_sem] <;> rfl) rfl ⟨rfl, by (repeat (with_reducible first | exact Below.refl _ _ | apply below_drewN | apply below_drew | apply below_alloc | refine Below.setCell ?_ ?_ _)) <;> simp⟩
def rless (x y : R) : Bool := if x.d ≠ y.d then decide (x.d < y.d) else if x.b ≠ y.b then decide (y.b < x.b) else if x.b = 1 ∧ x.g ≠ y.g then decide (y.g < x.g) else decide (x.i < y.i)
set_option maxHeartbeats 1000000 in
set_option maxRecDepth 100000 in
theorem RankLess_at (x y : R) (w : World) : Calls Try.prog 12 #[x.v, y.v] w fun r w' => r = .returned (.bool (rless x y)) ∧ Below w.heap.size w w' := by
  obtain ⟨xd, xb, xg, xi⟩ := x
  obtain ⟨yd, yb, yg, yi⟩ := y
  have R0 : Side (rless ⟨xd, xb, xg, xi⟩ ⟨yd, yb, yg, yi⟩ = if xd ≠ yd then decide (xd < yd) else if xb ≠ yb then decide (yb < xb) else if xb = 1 ∧ xg ≠ yg then decide (yg < xg) else decide (xi < yi)) := ⟨rfl⟩
  generalize rless ⟨xd, xb, xg, xi⟩ ⟨yd, yb, yg, yi⟩ = q at *
  have hc : ((xd != yd) = true ∧ Side (decide (xd < yd) = q)) ∨ ((xd != yd) = false ∧ (xb != yb) = true ∧ Side (decide (yb < xb) = q)) ∨ ((xd != yd) = false ∧ (xb != yb) = false ∧ (xb == 1) = true ∧ (xg != yg) = true ∧ Side (decide (yg < xg) = q))
      ∨ ((xd != yd) = false ∧ (xb != yb) = false ∧ (xb == 1) = true ∧ (xg != yg) = false ∧ Side (decide (xi < yi) = q)) ∨ ((xd != yd) = false ∧ (xb != yb) = false ∧ (xb == 1) = false ∧ Side (decide (xi < yi) = q)) := by
    by_cases h1 : xd = yd
    · by_cases h2 : xb = yb
      · by_cases h3 : xb = 1
        · by_cases h4 : xg = yg
          · exact .inr (.inr (.inr (.inl ⟨bne_eq_false_iff_eq.2 h1, bne_eq_false_iff_eq.2 h2, beq_iff_eq.2 h3, bne_eq_false_iff_eq.2 h4, ⟨by rw [R0.out, if_neg (fun h => h h1), if_neg (fun h => h h2), if_neg (fun h => h.2 h4)]⟩⟩)))
          · exact .inr (.inr (.inl ⟨bne_eq_false_iff_eq.2 h1, bne_eq_false_iff_eq.2 h2, beq_iff_eq.2 h3, bne_iff_ne.2 h4, ⟨by rw [R0.out, if_neg (fun h => h h1), if_neg (fun h => h h2), if_pos ⟨h3, h4⟩]⟩⟩))
        · exact .inr (.inr (.inr (.inr ⟨bne_eq_false_iff_eq.2 h1, bne_eq_false_iff_eq.2 h2, beq_eq_false_iff_ne.2 h3, ⟨by rw [R0.out, if_neg (fun h => h h1), if_neg (fun h => h h2), if_neg (fun h => h3 h.1)]⟩⟩)))
      · exact .inr (.inl ⟨bne_eq_false_iff_eq.2 h1, bne_iff_ne.2 h2, ⟨by rw [R0.out, if_neg (fun h => h h1), if_pos h2]⟩⟩)
    · exact .inl ⟨bne_iff_ne.2 h1, ⟨by rw [R0.out, if_pos h1]⟩⟩
  clear R0
  rcases hc with ⟨b1, Q⟩ | ⟨b1, b2, Q⟩ | ⟨b1, b2, b3, b4, Q⟩ | ⟨b1, b2, b3, b4, Q⟩ | ⟨b1, b2, b3, Q⟩
  all_goals
    go_enter Try.func12, Try.ntmps12
    go_wp2
    go_ret
    exact ⟨ret_bool Q.out, by (repeat (with_reducible first | exact Below.refl _ _ | apply below_drewN | apply below_drew | apply below_alloc | refine Below.setCell ?_ ?_ _)) <;> simp⟩
end Go.Proofs.Ytmjgadhknliiaaa.Rank
