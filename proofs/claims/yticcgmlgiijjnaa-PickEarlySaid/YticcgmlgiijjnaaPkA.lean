/- Package pick, first text: there, Can, Rank, walked by hand. No condition but that releases lie within 2^40. -/
import Derived.Test.YticcgmlgiijjnaaPkPlain
import Derived.Test.YticcgmlgiijjnaaWinRel
import Derived.Deep.QuietTactic
import Derived.BigQuiet
set_option linter.unusedVariables false
set_option linter.unusedSimpArgs false
namespace Go.Proofs.Yticcgmlgiijjnaa.PkA
open Go.RowKit Go.Proofs.Yticcgmlgiijjnaa.Kit HpPlain EvPlain Go.Proofs.Yticcgmlgiijjnaa.Win Go.Proofs.Yticcgmlgiijjnaa.Rank Go.Proofs.Yticcgmlgiijjnaa.Cmp Go.Proofs.Yticcgmlgiijjnaa.PkPlain
/-- What a task's numbers may be. -/
structure Fit (t : Tk) : Prop where
  g0 : -9223372036854775808 ≤ t.g
  e1 : t.e ≤ 9223372036854775807
  r0 : -1099511627776 ≤ t.r
  r1 : t.r ≤ 1099511627776
abbrev tv (t : Tk) : Value := .agg #[.int .i64 t.id, .int .i64 t.e, .int .i64 t.p, .bool t.s, .bool t.l, .bool t.wt, .bool t.a, .int .i64 t.r, .int .i64 t.g, .bool t.d, .int .i64 t.c]
set_option maxHeartbeats 4000000 in
set_option maxRecDepth 100000 in
theorem there_at (t : Tk) (ht : Fit t) (w : World) : Calls Try.prog 20 #[tv t] w fun x w' => x = .returned (.bool (decide (nx t))) ∧ Below w.heap.size w w' := by
  obtain ⟨id, e, p, s, l, wt, a, r, g, d, c⟩ := t
  have h1 : -9223372036854775808 ≤ g := ht.g0
  have h2 : e ≤ 9223372036854775807 := ht.e1
  clear ht
  cases a
  · have R : Side (false = decide (nx ⟨id, e, p, s, l, wt, false, r, g, d, c⟩)) := ⟨(decide_eq_false (by unfold nx; simp)).symm⟩
    go_enter Try.func20, Try.ntmps20
    go_wp2
    go_ret
    exact ⟨ret_bool R.out, by (repeat (with_reducible first | exact Below.refl _ _ | apply below_drewN | apply below_drew | apply below_alloc))⟩
  · by_cases hl : g < e
    · have h3 : g + 1 ≤ 9223372036854775807 := by omega
      have R : Side (decide (T e p (g + 1)) = decide (nx ⟨id, e, p, s, l, wt, true, r, g, d, c⟩)) := ⟨decide_eq_decide.2 (by unfold nx; exact ⟨fun h => ⟨rfl, hl, h⟩, fun h => h.2.2⟩)⟩
      have C := fun w => Side.mk (May_at e p (g + 1) w)
      go_enter Try.func20, Try.ntmps20
      go_wp2_with fail
      refine (C _).out.mono ?_
      rintro x w' ⟨rfl, n, rfl⟩
      go_wp2
      go_ret
      exact ⟨ret_bool R.out, by (repeat (with_reducible first | exact Below.refl _ _ | apply below_drewN | apply below_drew | apply below_alloc))⟩
    · have R : Side (false = decide (nx ⟨id, e, p, s, l, wt, true, r, g, d, c⟩)) := ⟨(decide_eq_false (by unfold nx; exact fun h => hl h.2.1)).symm⟩
      go_enter Try.func20, Try.ntmps20
      go_wp2
      go_ret
      exact ⟨ret_bool R.out, by (repeat (with_reducible first | exact Below.refl _ _ | apply below_drewN | apply below_drew | apply below_alloc))⟩
set_option maxHeartbeats 4000000 in
set_option maxRecDepth 100000 in
theorem Can_at (t : Tk) (ht : Fit t) (k : Int) (y : Bool) (w : World) : Calls Try.prog 10 #[tv t, .int .i64 k, .bool y] w fun x w' => x = .returned (.bool (can t k y)) ∧ Below w.heap.size w w' := by
  have TH := fun w => Side.mk (there_at t ht w)
  obtain ⟨id, e, p, s, l, wt, a, r, g, d, c⟩ := t
  have r0 : -1099511627776 ≤ r := ht.r0
  have r1 : r ≤ 1099511627776 := ht.r1
  have g0 : -9223372036854775808 ≤ g := ht.g0
  have e1 : e ≤ 9223372036854775807 := ht.e1
  clear ht
  by_cases hn : nx ⟨id, e, p, s, l, wt, a, r, g, d, c⟩
  · rw [decide_eq_true hn] at TH
    have hge : g < e := hn.2.1
    have hT : T e p (g + 1) := hn.2.2
    have RL := fun w => Side.mk (Release_at e p (g + 1) w)
    rw [relv_yes hT] at RL
    have hr := hT.rel_le
    have hp := hT.pm
    have h3 : g + 1 ≤ 9223372036854775807 := by omega
    by_cases hk : k < r
    · have R : Side (false = can ⟨id, e, p, s, l, wt, a, r, g, d, c⟩ k y) := ⟨by unfold can; rw [decide_eq_true hn, decide_eq_false (show ¬ r ≤ k by omega)]; rfl⟩
      clear hn hT
      go_enter Try.func10, Try.ntmps10
      go_wp2_with fail
      refine (TH _).out.mono ?_
      rintro x w' ⟨rfl, hb⟩
      have hc := (bcell hb).1
      have c7 : w'.cell? ⟨w.heap.size, 7, none⟩ = some (.int .i64 r) := (hc _ _ (by first | (simp; done) | (simp; omega))).trans (by go_simp)
      have hwl : w.heap.size < w'.heap.size := by have := hb.size; simp at this; omega
      have HB := Side.mk (below_then ((Below.refl _ w).alloc (Nat.le_refl _) _) (by first | (simp; done) | (simp; omega)) hb)
      clear hc hb
      go_wp2
      go_ret
      exact ⟨ret_bool R.out, HB.out⟩
    · have hk' : r ≤ k := by omega
      cases y
      · have R : Side (decide (r + rel e p (g + 1) ≤ k) = can ⟨id, e, p, s, l, wt, a, r, g, d, c⟩ k false) := ⟨by unfold can; rw [decide_eq_true hn, decide_eq_true (show r ≤ k by omega)]; rfl⟩
        clear hn hT
        generalize rel e p (g + 1) = q at *
        go_enter Try.func10, Try.ntmps10
        go_wp2_with fail
        refine (TH _).out.mono ?_
        rintro x w' ⟨rfl, hb⟩
        have hc := (bcell hb).1
        have c7 : w'.cell? ⟨w.heap.size, 7, none⟩ = some (.int .i64 r) := (hc _ _ (by first | (simp; done) | (simp; omega))).trans (by go_simp)
        have c1 : w'.cell? ⟨w.heap.size, 1, none⟩ = some (.int .i64 e) := (hc _ _ (by first | (simp; done) | (simp; omega))).trans (by go_simp)
        have c2 : w'.cell? ⟨w.heap.size, 2, none⟩ = some (.int .i64 p) := (hc _ _ (by first | (simp; done) | (simp; omega))).trans (by go_simp)
        have c8 : w'.cell? ⟨w.heap.size, 8, none⟩ = some (.int .i64 g) := (hc _ _ (by first | (simp; done) | (simp; omega))).trans (by go_simp)
        have hwl : w.heap.size < w'.heap.size := by have := hb.size; simp at this; omega
        have HB := Side.mk (below_then ((Below.refl _ w).alloc (Nat.le_refl _) _) (by first | (simp; done) | (simp; omega)) hb)
        clear hc hb
        go_upto_region 3 with (fail)
        go_quiet ((go_at_call 21; exact Calls.quiet_of (RL _).out))
        go_wp2
        go_ret
        exact ⟨ret_bool R.out, by (repeat (with_reducible first | exact HB.out | apply below_drewN | apply below_drew))⟩
      · have R : Side (true = can ⟨id, e, p, s, l, wt, a, r, g, d, c⟩ k true) := ⟨by unfold can; rw [decide_eq_true hn, decide_eq_true (show r ≤ k by omega)]; rfl⟩
        clear hn hT
        go_enter Try.func10, Try.ntmps10
        go_wp2_with fail
        refine (TH _).out.mono ?_
        rintro x w' ⟨rfl, hb⟩
        have hc := (bcell hb).1
        have c7 : w'.cell? ⟨w.heap.size, 7, none⟩ = some (.int .i64 r) := (hc _ _ (by first | (simp; done) | (simp; omega))).trans (by go_simp)
        have hwl : w.heap.size < w'.heap.size := by have := hb.size; simp at this; omega
        have HB := Side.mk (below_then ((Below.refl _ w).alloc (Nat.le_refl _) _) (by first | (simp; done) | (simp; omega)) hb)
        clear hc hb
        go_upto_region 3 with (fail)
        go_quiet (fail)
        go_wp2
        go_ret
        exact ⟨ret_bool R.out, by (repeat (with_reducible first | exact HB.out | apply below_drewN | apply below_drew))⟩
  · rw [decide_eq_false hn] at TH
    have R : Side (false = can ⟨id, e, p, s, l, wt, a, r, g, d, c⟩ k y) := ⟨by unfold can; rw [decide_eq_false hn]; rfl⟩
    clear hn
    go_enter Try.func10, Try.ntmps10
    go_wp2_with fail
    refine (TH _).out.mono ?_
    rintro x w' ⟨rfl, hb⟩
    have HB := Side.mk (below_then ((Below.refl _ w).alloc (Nat.le_refl _) _) (by first | (simp; done) | (simp; omega)) hb)
    clear hb
    go_wp2
    go_ret
    exact ⟨ret_bool R.out, HB.out⟩
set_option maxHeartbeats 4000000 in
set_option maxRecDepth 100000 in
theorem Rank_at (t : Tk) (ht : Fit t) (w : World) : Calls Try.prog 12 #[tv t] w fun x w' => x = .returned (rk t).v ∧ Below w.heap.size w w' := by
  have TH := fun w => Side.mk (there_at t ht w)
  obtain ⟨id, e, p, s, l, wt, a, r, g, d, c⟩ := t
  have g0 : -9223372036854775808 ≤ g := ht.g0
  have e1 : e ≤ 9223372036854775807 := ht.e1
  clear ht
  by_cases hn : nx ⟨id, e, p, s, l, wt, a, r, g, d, c⟩
  · rw [decide_eq_true hn] at TH
    have hge : g < e := hn.2.1
    have h3 : g + 1 ≤ 9223372036854775807 := by omega
    have R : rk ⟨id, e, p, s, l, wt, a, r, g, d, c⟩ = ofq e p (g + 1) r id := if_pos hn
    have OF := fun w => Side.mk (Of_at e p (g + 1) r id w)
    rw [R]
    clear R hn
    generalize ofq e p (g + 1) r id = q at *
    obtain ⟨q1, q2, q3, q4⟩ := q
    go_enter Try.func12, Try.ntmps12
    go_wp2_with fail
    refine (TH _).out.mono ?_
    rintro x w' ⟨rfl, hb⟩
    have hc := (bcell hb).1
    have c0 : w'.cell? ⟨w.heap.size, 0, none⟩ = some (.int .i64 id) := (hc _ _ (by first | (simp; done) | (simp; omega))).trans (by go_simp)
    have c7 : w'.cell? ⟨w.heap.size, 7, none⟩ = some (.int .i64 r) := (hc _ _ (by first | (simp; done) | (simp; omega))).trans (by go_simp)
    have c1 : w'.cell? ⟨w.heap.size, 1, none⟩ = some (.int .i64 e) := (hc _ _ (by first | (simp; done) | (simp; omega))).trans (by go_simp)
    have c2 : w'.cell? ⟨w.heap.size, 2, none⟩ = some (.int .i64 p) := (hc _ _ (by first | (simp; done) | (simp; omega))).trans (by go_simp)
    have c8 : w'.cell? ⟨w.heap.size, 8, none⟩ = some (.int .i64 g) := (hc _ _ (by first | (simp; done) | (simp; omega))).trans (by go_simp)
    have hwl : w.heap.size + 1 < w'.heap.size := by have := hb.size; simp at this; omega
    have HB := Side.mk (below_then ((((Below.refl _ w).alloc (Nat.le_refl _) _)).alloc (by simp) _) (by first | (simp; done) | (simp; omega)) hb)
    have q0 : w'.cell? ⟨w.heap.size + 1, 0, none⟩ = some (.int .i64 0) := (hc _ _ (by simp)).trans (by go_simp)
    have q1' : w'.cell? ⟨w.heap.size + 1, 1, none⟩ = some (.int .i64 0) := (hc _ _ (by simp)).trans (by go_simp)
    have q2' : w'.cell? ⟨w.heap.size + 1, 2, none⟩ = some (.int .i64 0) := (hc _ _ (by simp)).trans (by go_simp)
    have q3' : w'.cell? ⟨w.heap.size + 1, 3, none⟩ = some (.int .i64 0) := (hc _ _ (by simp)).trans (by go_simp)
    have hf := (bcell hb).2
    have z0 : w'.frozen? ⟨w.heap.size + 1, 0, none⟩ = false := (hf _ _ (by simp)).trans (by go_simp)
    have z1 : w'.frozen? ⟨w.heap.size + 1, 1, none⟩ = false := (hf _ _ (by simp)).trans (by go_simp)
    have z2 : w'.frozen? ⟨w.heap.size + 1, 2, none⟩ = false := (hf _ _ (by simp)).trans (by go_simp)
    have z3 : w'.frozen? ⟨w.heap.size + 1, 3, none⟩ = false := (hf _ _ (by simp)).trans (by go_simp)
    clear hc hb hf
    go_wp2_with fail
    refine (OF _).out.mono ?_
    rintro x w2 ⟨rfl, hb2⟩
    have HB2 := Side.mk (below_then HB.out HB.out.size hb2)
    have hc2 := (bcell hb2).1
    have hf2 := (bcell hb2).2
    have q0 := (hc2 _ _ hwl).trans q0
    have q1' := (hc2 _ _ hwl).trans q1'
    have q2' := (hc2 _ _ hwl).trans q2'
    have q3' := (hc2 _ _ hwl).trans q3'
    have z0 := (hf2 _ _ hwl).trans z0
    have z1 := (hf2 _ _ hwl).trans z1
    have z2 := (hf2 _ _ hwl).trans z2
    have z3 := (hf2 _ _ hwl).trans z3
    have hwl2 : w.heap.size + 1 < w2.heap.size := Nat.lt_of_lt_of_le hwl hb2.size
    clear hb2 hc2 hf2 HB c0 c7 c1 c2 c8 hwl
    go_wp2
    refine bodyPost_ret (v := .agg #[.int .i64 q1, .int .i64 q2, .int .i64 q3, .int .i64 q4]) (by simp [results, Try.results12, go_sem, q0, q1', q2', q3'] <;> rfl) rfl ⟨rfl, ?_⟩
    (repeat (with_reducible first | exact HB2.out | refine Below.setCell ?_ ?_ _))
    all_goals (simp)
  · rw [decide_eq_false hn] at TH
    have R : rk ⟨id, e, p, s, l, wt, a, r, g, d, c⟩ = ⟨0, 0, 0, id⟩ := if_neg hn
    rw [R]
    clear R hn
    go_enter Try.func12, Try.ntmps12
    go_wp2_with fail
    refine (TH _).out.mono ?_
    rintro x w' ⟨rfl, hb⟩
    have hc := (bcell hb).1
    have hf := (bcell hb).2
    have c0 : w'.cell? ⟨w.heap.size, 0, none⟩ = some (.int .i64 id) := (hc _ _ (by first | (simp; done) | (simp; omega))).trans (by go_simp)
    have hwl : w.heap.size + 1 < w'.heap.size := by have := hb.size; simp at this; omega
    have hwl0 : w.heap.size < w'.heap.size := by omega
    have HB2 := Side.mk (below_then ((((Below.refl _ w).alloc (Nat.le_refl _) _)).alloc (by simp) _) (by first | (simp; done) | (simp; omega)) hb)
    have q0 : w'.cell? ⟨w.heap.size + 1, 0, none⟩ = some (.int .i64 0) := (hc _ _ (by simp)).trans (by go_simp)
    have q1' : w'.cell? ⟨w.heap.size + 1, 1, none⟩ = some (.int .i64 0) := (hc _ _ (by simp)).trans (by go_simp)
    have q2' : w'.cell? ⟨w.heap.size + 1, 2, none⟩ = some (.int .i64 0) := (hc _ _ (by simp)).trans (by go_simp)
    have q3' : w'.cell? ⟨w.heap.size + 1, 3, none⟩ = some (.int .i64 0) := (hc _ _ (by simp)).trans (by go_simp)
    have z0 : w'.frozen? ⟨w.heap.size + 1, 0, none⟩ = false := (hf _ _ (by simp)).trans (by go_simp)
    have z1 : w'.frozen? ⟨w.heap.size + 1, 1, none⟩ = false := (hf _ _ (by simp)).trans (by go_simp)
    have z2 : w'.frozen? ⟨w.heap.size + 1, 2, none⟩ = false := (hf _ _ (by simp)).trans (by go_simp)
    have z3 : w'.frozen? ⟨w.heap.size + 1, 3, none⟩ = false := (hf _ _ (by simp)).trans (by go_simp)
    clear hb hc hf
    go_wp2
    refine bodyPost_ret (v := .agg #[.int .i64 0, .int .i64 0, .int .i64 0, .int .i64 id]) (by simp [results, Try.results12, go_sem, q0, q1', q2', q3'] <;> rfl) rfl ⟨rfl, ?_⟩
    (repeat (with_reducible first | exact HB2.out | refine Below.setCell ?_ ?_ _))
    all_goals (simp)
end Go.Proofs.Yticcgmlgiijjnaa.PkA
