/- Package pick: the reference's Can and Rank, walked by hand. No condition but that releases lie within 2^40. -/
import Derived.Test.YticcgmlgiijjnaaPkD
set_option linter.unusedVariables false
set_option linter.unusedSimpArgs false
namespace Go.Proofs.Yticcgmlgiijjnaa.PkF
open Go.RowKit Go.Proofs.Yticcgmlgiijjnaa.Kit Go.Proofs.Yticcgmlgiijjnaa.Kit2 Go.Proofs.Yticcgmlgiijjnaa.Kit3 Go.Proofs.Yticcgmlgiijjnaa.Kit4 Go.Proofs.Yticcgmlgiijjnaa.Kit5 HpPlain Go.Maps EvPlain Go.Proofs.Yticcgmlgiijjnaa.HpA Go.Proofs.Yticcgmlgiijjnaa.HpB Go.Proofs.Yticcgmlgiijjnaa.HpK Go.Proofs.Yticcgmlgiijjnaa.Win Go.Proofs.Yticcgmlgiijjnaa.Rank Go.Proofs.Yticcgmlgiijjnaa.Cmp Go.Proofs.Yticcgmlgiijjnaa.PkPlain Go.Proofs.Yticcgmlgiijjnaa.PkA Go.Proofs.Yticcgmlgiijjnaa.PkB Go.Proofs.Yticcgmlgiijjnaa.PkC Go.Proofs.Yticcgmlgiijjnaa.PkD
theorem rof_ofq (e p i r id : Int) (h1 : -1099511627776 ≤ r) (h2 : r ≤ 1099511627776) : rof e p i r id = ofq e p i r id := by
  unfold rof ofq
  by_cases h : T e p i
  · rw [if_pos h, if_pos h, Int.add_comm r, Int.add_comm r]
    by_cases hg : 0 < group e p i
    · rw [if_pos hg, if_pos hg]
    · rw [if_neg hg, if_neg hg]
      have : group e p i = 0 := by
        unfold group at hg ⊢
        split at hg
        · rename_i hh
          have := hh.1.grp_le hh.2.2; have := hh.1.dl_le
          omega
        · rename_i hh; rw [if_neg hh]
      rw [this]
  · rw [if_neg h, if_neg h]
abbrev BB (w w' : World) : Prop := Below w.heap.size w w'
set_option maxHeartbeats 4000000 in
set_option maxRecDepth 100000 in
theorem RCan_at (t : Tk) (ht : Fit t) (k : Int) (k0 : -1099511627776 ≤ k) (k1 : k ≤ 1099511627776) (y : Bool) (w : World) : Calls Try.prog 11 #[tv t, .int .i64 k, .bool y] w fun x w' => x = .returned (.bool (can t k y)) ∧ Below w.heap.size w w' := by
  have TM := fun w => Side.mk (TaskMay_at t.e t.p w)
  obtain ⟨id, e, p, s, l, wt, a, r, g, d, c⟩ := t
  have r0 : -1099511627776 ≤ r := ht.r0
  have r1 : r ≤ 1099511627776 := ht.r1
  have g0 : -9223372036854775808 ≤ g := ht.g0
  have e1 : e ≤ 9223372036854775807 := ht.e1
  clear ht
  dsimp only at TM
  have NO : ¬ nx ⟨id, e, p, s, l, wt, a, r, g, d, c⟩ → false = can ⟨id, e, p, s, l, wt, a, r, g, d, c⟩ k y := fun h => by unfold can; rw [decide_eq_false h]; rfl
  cases a
  · have R := Side.mk (NO (fun h => by have := h.1; cases this))
    clear NO
    go_enter Try.func11, Try.ntmps11
    go_wp2
    go_ret
    exact ⟨ret_bool R.out, by (repeat (with_reducible first | exact Below.refl _ _ | apply below_drewN | apply below_drew | apply below_alloc))⟩
  by_cases h1 : e ≤ g
  · have R := Side.mk (NO (fun h => by have h2 : g < e := h.2.1; omega))
    clear NO
    go_enter Try.func11, Try.ntmps11
    go_wp2
    go_ret
    exact ⟨ret_bool R.out, by (repeat (with_reducible first | exact Below.refl _ _ | apply below_drewN | apply below_drew | apply below_alloc))⟩
  by_cases h2 : g < 0
  · have R := Side.mk (NO (fun h => by have h3 := h.2.2.i1; dsimp only at h3; omega))
    clear NO
    go_enter Try.func11, Try.ntmps11
    go_wp2
    go_ret
    exact ⟨ret_bool R.out, by (repeat (with_reducible first | exact Below.refl _ _ | apply below_drewN | apply below_drew | apply below_alloc))⟩
  by_cases h3 : 1 ≤ e ∧ e ≤ p ∧ p ≤ 1048575
  · rw [decide_eq_true h3] at TM
    have hT : T e p (g + 1) := ⟨h3.1, h3.2.1, h3.2.2, by omega, by omega⟩
    have hn : nx ⟨id, e, p, s, l, wt, true, r, g, d, c⟩ := ⟨rfl, by show g < e; omega, hT⟩
    clear NO
    by_cases h4 : k < r
    · have R : Side (false = can ⟨id, e, p, s, l, wt, true, r, g, d, c⟩ k y) := ⟨by unfold can; rw [decide_eq_true hn, decide_eq_false (show ¬ r ≤ k by omega)]; rfl⟩
      clear hn hT h3
      go_enter Try.func11, Try.ntmps11
      go_wp2_with fail
      refine (TM _).out.mono ?_
      rintro x w' ⟨rfl, n, rfl⟩
      go_wp2
      go_ret
      exact ⟨ret_bool R.out, by (repeat (with_reducible first | exact Below.refl _ _ | apply below_drewN | apply below_drew | apply below_alloc))⟩
    · have hr := hT.rel_le
      have hp := hT.pm
      have hg1 : g + 1 ≤ 9223372036854775807 := by omega
      obtain ⟨q, hq⟩ : ∃ q, q = rel e p (g + 1) := ⟨_, rfl⟩
      have WI := fun w => Side.mk (Window_at e p (g + 1) q _ _ _ w hT hq rfl rfl rfl)
      generalize dead e p (g + 1) = dv at *
      generalize bit e p (g + 1) = bv at *
      generalize group e p (g + 1) = gv at *
      have R0 : can ⟨id, e, p, s, l, wt, true, r, g, d, c⟩ k y = (y || decide (r + q ≤ k)) := by unfold can; rw [decide_eq_true hn, decide_eq_true (show r ≤ k by omega), hq]; rfl
      rw [← hq] at hr
      cases y
      · have R : Side (decide (q ≤ k - r) = can ⟨id, e, p, s, l, wt, true, r, g, d, c⟩ k false) := ⟨by rw [R0, Bool.false_or]; exact decide_eq_decide.2 (by omega)⟩
        clear hn hT h3 R0 hq
        go_enter Try.func11, Try.ntmps11
        go_wp2_with fail
        refine (TM _).out.mono ?_
        rintro x w' ⟨rfl, n, rfl⟩
        go_wp2_with fail
        refine (WI _).out.mono ?_
        rintro x w' ⟨rfl, m, rfl⟩
        go_wp2
        go_ret
        exact ⟨ret_bool R.out, by (repeat (with_reducible first | exact Below.refl _ _ | apply below_drewN | apply below_drew | apply below_alloc))⟩
      · have R : Side (true = can ⟨id, e, p, s, l, wt, true, r, g, d, c⟩ k true) := ⟨by rw [R0, Bool.true_or]⟩
        clear hn hT h3 R0 hq
        go_enter Try.func11, Try.ntmps11
        go_wp2_with fail
        refine (TM _).out.mono ?_
        rintro x w' ⟨rfl, n, rfl⟩
        go_wp2_with fail
        refine (WI _).out.mono ?_
        rintro x w' ⟨rfl, m, rfl⟩
        go_wp2
        go_ret
        exact ⟨ret_bool R.out, by (repeat (with_reducible first | exact Below.refl _ _ | apply below_drewN | apply below_drew | apply below_alloc))⟩
  · have R := Side.mk (NO (fun h => by have h4 := h.2.2; exact h3 ⟨h4.e1, h4.ep, h4.pm⟩))
    rw [decide_eq_false h3] at TM
    clear NO h3
    go_enter Try.func11, Try.ntmps11
    go_wp2_with fail
    refine (TM _).out.mono ?_
    rintro x w' ⟨rfl, n, rfl⟩
    go_wp2
    go_ret
    exact ⟨ret_bool R.out, by (repeat (with_reducible first | exact Below.refl _ _ | apply below_drewN | apply below_drew | apply below_alloc))⟩
set_option maxHeartbeats 4000000 in
set_option maxRecDepth 100000 in
theorem RRank_at (t : Tk) (ht : Fit t) (hge : t.g < t.e) (w : World) : Calls Try.prog 14 #[tv t] w fun x w' => x = .returned (rk t).v ∧ Below w.heap.size w w' := by
  obtain ⟨id, e, p, s, l, wt, a, r, g, d, c⟩ := t
  have g0 : -9223372036854775808 ≤ g := ht.g0
  have e1 : e ≤ 9223372036854775807 := ht.e1
  have r0 : -1099511627776 ≤ r := ht.r0
  have r1 : r ≤ 1099511627776 := ht.r1
  have hge : g < e := hge
  clear ht
  have h3 : g + 1 ≤ 9223372036854775807 := by omega
  cases a
  · have R : rk ⟨id, e, p, s, l, wt, false, r, g, d, c⟩ = ⟨0, 0, 0, id⟩ := if_neg (fun h => by have := h.1; cases this)
    rw [R]
    clear R
    go_enter Try.func14, Try.ntmps14
    go_wp2
    exact bodyPost_ret (v := .agg #[.int .i64 0, .int .i64 0, .int .i64 0, .int .i64 id]) (by simp [results, Try.results14, go_sem] <;> rfl) rfl ⟨rfl, by (repeat (with_reducible first | exact Below.refl _ _ | apply below_drewN | apply below_drew | apply below_alloc | refine Below.setCell ?_ ?_ _)) <;> simp⟩
  · have R : rk ⟨id, e, p, s, l, wt, true, r, g, d, c⟩ = ofq e p (g + 1) r id := by
      unfold rk
      split
      · rfl
      · rename_i h
        unfold ofq
        rw [if_neg (fun hT => h ⟨rfl, hge, hT⟩)]
    have OF := fun w => Side.mk (RankOf_at e p (g + 1) r id w)
    rw [rof_ofq _ _ _ _ _ r0 r1] at OF
    rw [R]
    clear R
    generalize ofq e p (g + 1) r id = q at *
    obtain ⟨q1, q2, q3, q4⟩ := q
    go_enter Try.func14, Try.ntmps14
    go_wp2_with fail
    refine (OF _).out.mono ?_
    rintro x w' ⟨rfl, hb⟩
    have hc := (bcell hb).1
    have hf := (bcell hb).2
    have hwl : w.heap.size + 1 < w'.heap.size := by have := hb.size; simp at this; omega
    have HB2 := Side.mk (below_then ((((Below.refl _ w).alloc (Nat.le_refl _) _)).alloc (by simp) _) (by first | (simp; done) | (simp; omega)) hb)
    have q0 : w'.cell? ⟨w.heap.size + 1, 0, none⟩ = some (.int .i64 0) := (hc _ _ (by simp)).trans (by go_simp)
    have q1' : w'.cell? ⟨w.heap.size + 1, 1, none⟩ = some (.int .i64 0) := (hc _ _ (by simp)).trans (by go_simp)
    have q2' : w'.cell? ⟨w.heap.size + 1, 2, none⟩ = some (.int .i64 0) := (hc _ _ (by simp)).trans (by go_simp)
    have q3' : w'.cell? ⟨w.heap.size + 1, 3, none⟩ = some (.int .i64 0) := (hc _ _ (by simp)).trans (by go_simp)
    have z0 : w'.frozen? ⟨w.heap.size + 1, 0, none⟩ = false := (hf _ _ (by simp)).trans (by go_simp)
    have z1 : w'.frozen? ⟨w.heap.size + 1, 1, none⟩ = false := (hf _ _ (by simp)).trans (by go_simp)
    have z2 : w'.frozen? ⟨w.heap.size + 1, 2, none⟩ = false := (hf _ _ (by simp)).trans (by go_simp)
    have z3 : w'.frozen? ⟨w.heap.size + 1, 3, none⟩ = false := (hf _ _ (by simp)).trans (by go_simp)
    clear hb hc hf
    go_wp2
    refine bodyPost_ret (v := .agg #[.int .i64 q1, .int .i64 q2, .int .i64 q3, .int .i64 q4]) (by simp [results, Try.results14, go_sem, q0, q1', q2', q3'] <;> rfl) rfl ⟨rfl, ?_⟩
    (repeat (with_reducible first | exact HB2.out | refine Below.setCell ?_ ?_ _))
    all_goals (simp)
end Go.Proofs.Yticcgmlgiijjnaa.PkF
