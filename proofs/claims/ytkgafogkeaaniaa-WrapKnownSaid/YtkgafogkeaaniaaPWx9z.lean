/- Printed by a program of mine: a changed copy of the kit's printer. No condition. -/
import Derived.Test.YtkgafogkeaaniaaPWx0z
import Derived.Test.YtkgafogkeaaniaaPWx2z
import Derived.Test.YtkgafogkeaaniaaPWx4z
import Derived.Test.YtkgafogkeaaniaaPWx5z
namespace Go.Proofs.Ytkgafogkeaaniaa.PW
open Go.RowKit Go.Proofs.YtkgafogkeaaniaaW.PrintWords Go.Proofs.YtkgafogkeaaniaaW.PrintLast Go.Proofs.YtkgafogkeaaniaaW.PrintMore
attribute [local go_sem] max2_int min2_int max_two min_two max_three min_three max_four min_four   -- for this text's walks alone
set_option linter.unusedVariables false
set_option linter.unusedSimpArgs false

/-! ### wrap_Clip: function 19 -/
mutual
def wrap_Clip.l0 : Nat → Int → Int → List (S41) → List (S41) → Int → Int → Option ((List (S41)))
  | 0, _, _, _, _, _, _ => none
  | k + 1, x1, x2, x7, x10, x11, x12 => if x12 < x11 then (if 0 ≤ x12 then (if x12 < (x10.length : Int) then ((ratio_May.f k ((rd_T41 x10 x12).f3.f0) ((rd_T41 x10 x12).f3.f1)).bind fun t376 => (if t376 = true then ((ratio_May.f k ((rd_T41 x10 x12).f4.f0) ((rd_T41 x10 x12).f4.f1)).bind fun t377 => (wrap_Clip.j1 k x1 x2 x7 x10 x11 x12 (!t377) ((rd_T41 x10 x12).f0) ((rd_T41 x10 x12).f1) ((rd_T41 x10 x12).f2) ((rd_T41 x10 x12).f3.f0) ((rd_T41 x10 x12).f3.f1) ((rd_T41 x10 x12).f4.f0) ((rd_T41 x10 x12).f4.f1) ((rd_T41 x10 x12).f5))) else (wrap_Clip.j1 k x1 x2 x7 x10 x11 x12 true ((rd_T41 x10 x12).f0) ((rd_T41 x10 x12).f1) ((rd_T41 x10 x12).f2) ((rd_T41 x10 x12).f3.f0) ((rd_T41 x10 x12).f3.f1) ((rd_T41 x10 x12).f4.f0) ((rd_T41 x10 x12).f4.f1) ((rd_T41 x10 x12).f5)))) else (none)) else (none)) else (some x7)
def wrap_Clip.j1 : Nat → Int → Int → List (S41) → List (S41) → Int → Int → Bool → Int → Int → Int → Int → Int → Int → Int → Bool → Option ((List (S41)))
  | 0, _, _, _, _, _, _, _, _, _, _, _, _, _, _, _ => none
  | k + 1, x1, x2, x7, x10, x11, x12, x25, x376000, x376001, x376002, x376003, x376004, x376005, x376006, x376007 => if x25 = true then (wrap_Clip.l0 k x1 x2 x7 x10 x11 (wrap64 (x12 + 1))) else ((wrap_whole.f x1).bind fun bt378 => ((ratio_Cmp.f k x376003 x376004 bt378.1 bt378.2).bind fun t380 => (if t380 < 0 then ((wrap_whole.f x1).bind fun bt381 => (wrap_Clip.j2 k x1 x2 x7 x10 x11 x12 x376000 x376001 x376002 bt381.1 bt381.2 x376005 x376006 x376007)) else (wrap_Clip.j2 k x1 x2 x7 x10 x11 x12 x376000 x376001 x376002 x376003 x376004 x376005 x376006 x376007))))
def wrap_Clip.j2 : Nat → Int → Int → List (S41) → List (S41) → Int → Int → Int → Int → Int → Int → Int → Int → Int → Bool → Option ((List (S41)))
  | 0, _, _, _, _, _, _, _, _, _, _, _, _, _, _ => none
  | k + 1, x1, x2, x7, x10, x11, x12, x376000, x376001, x376002, x376003, x376004, x376005, x376006, x376007 => (wrap_whole.f x2).bind fun bt383 => ((wrap_less.f k x376005 x376006 bt383.1 bt383.2).bind fun bt385 => ((ratio_Cmp.f k x376003 x376004 bt385.1 bt385.2).bind fun t387 => (if t387 < 0 then (if x7.length < 2199023255552 then (wrap_Clip.l0 k x1 x2 (x7 ++ [(⟨x376000, x376001, x376002, (⟨x376003, x376004⟩ : S37), (⟨bt385.1, bt385.2⟩ : S37), x376007⟩ : S41)]) x10 x11 (wrap64 (x12 + 1))) else (none)) else (wrap_Clip.l0 k x1 x2 x7 x10 x11 (wrap64 (x12 + 1))))))
end
def wrap_Clip.f (k : Nat) (l0 : List (S41)) (a1 : Int) (a2 : Int) : Option ((List (S41))) := wrap_Clip.l0 k a1 a2 ([] : List (S41)) l0 (l0.length : Int) 0
set_option maxHeartbeats 8000000 in
set_option maxRecDepth 100000 in
theorem wrap_Clip.calls (k : Nat) (A0 : Option Addr) (c0 : Nat) (l0 : List (S41)) (a1 : Int) (a2 : Int) (r : List (S41)) (w : World) (hr0 : Kd.C k41 w A0 l0.length l0) (hc0 : l0.length ≤ c0) (h : wrap_Clip.f k l0 a1 a2 = some r) :
    Calls Try.prog 19 #[.slice A0 l0.length c0, .int .i64 a1, .int .i64 a2] w fun e w' => ∃ v0_ : Value, e = .returned (v0_) ∧ Kd.R k41 41 w' w.heap.size (fun _ => True) v0_ r ∧ Below w.heap.size w w' := by
  have hu41 := Try.underlying41
  have hu37 := Try.underlying37
  have HR0 := Aside0.mk hr0
  have HC0 := Aside0.mk hc0
  clear hr0 hc0
  have HB := Aside0.mk (Below.refl w.heap.size w)
  have H : (wrap_Clip.l0 k a1 a2 ([] : List (S41)) l0 (l0.length : Int) 0) = some r := h
  clear h
  have H' := Aside0.mk H
  clear H
  go_enter Try.func19, Try.ntmps19
  go_wp2
  try simp only [Act.put, List.setIfInBounds_toArray, List.set_cons_succ, List.set_cons_zero]
  go_loopg [7, 12] k (fun kq v7 v12 w' => ∃ (x7_1 : List (S41)) (x12_1 : Int), v12 = .int .i64 x12_1 ∧ Aside0 (wrap_Clip.l0 kq a1 a2 x7_1 l0 (l0.length : Int) x12_1 = some r) ∧ Aside0 (kq ≤ k) ∧ Aside0 (Kd.R k41 41 w' w.heap.size (fun _ => True) v7 x7_1) ∧ Aside0 (Below w.heap.size w w'))
  case atStart => exact ⟨(([] : List (S41))), (0), (by first | rfl | (simp; done) | (simp [*]; done)), H', ⟨Nat.le_refl _⟩, ⟨by first | exact Kd.R_nil _ _ _ _ _ | exact Kd.N_nil _ _ _ _ _ | exact Kd.V_nil _ _ _ _ _ | exact Kd.Q_nil _ _ _ _ _ | exact Kd.S_nil _ _ _ _ _⟩, ⟨by repeat (first | (with_reducible first | exact HB.out | apply below_alloc | apply pw_below_drewN | apply below_drew1) | exact HB.out)⟩⟩
  case round =>
    clear H'
    try clear c1
    try clear p2
    obtain ⟨x7_1, x12_1, rfl, HA, HK1, HO_7, HB⟩ := hrel
    cases gk with
    | zero => exact absurd HA.out (by simp [wrap_Clip.l0])
    | succ k1 =>
      have H := HA.out
      clear HA
      simp only [wrap_Clip.l0] at H
      by_cases c4 : x12_1 < (l0.length : Int)
      · rw [if_pos c4] at H
        have c4b0 : decide (x12_1 < (l0.length : Int)) = true := decide_eq_true c4
        clear c4
        by_cases c5 : 0 ≤ x12_1
        · rw [if_pos c5] at H
          have c5b0 : decide (0 ≤ x12_1) = true := decide_eq_true c5
          clear c5
          by_cases c6 : x12_1 < (l0.length : Int)
          · rw [if_pos c6] at H
            have c6b0 : decide (x12_1 < (l0.length : Int)) = true := decide_eq_true c6
            clear c6
            have HC7 := Aside0.mk H
            clear H
            have p374 : 0 ≤ (x12_1 : Int) := of_decide_eq_true (by first | (with_reducible assumption) | assumption)
            have q374 : x12_1 < (l0.length : Int) := of_decide_eq_true (by first | (with_reducible assumption) | assumption)
            obtain ⟨ad374, e374, hx374_0, hx374_1, hx374_2, hx374_3, hx374_4, hx374_5, hx374_6, hx374_7⟩ := at_T41 HR0.out x12_1 p374 q374
            cases e374
            replace hx374_0 := (HB.out.cell (World.block_lt_of_cell? w _ hx374_0)).trans hx374_0
            replace hx374_1 := (HB.out.cell (World.block_lt_of_cell? w _ hx374_1)).trans hx374_1
            replace hx374_2 := (HB.out.cell (World.block_lt_of_cell? w _ hx374_2)).trans hx374_2
            replace hx374_3 := (HB.out.cell (World.block_lt_of_cell? w _ hx374_3)).trans hx374_3
            replace hx374_4 := (HB.out.cell (World.block_lt_of_cell? w _ hx374_4)).trans hx374_4
            replace hx374_5 := (HB.out.cell (World.block_lt_of_cell? w _ hx374_5)).trans hx374_5
            replace hx374_6 := (HB.out.cell (World.block_lt_of_cell? w _ hx374_6)).trans hx374_6
            replace hx374_7 := (HB.out.cell (World.block_lt_of_cell? w _ hx374_7)).trans hx374_7
            replace p374 := eq_true p374
            replace q374 := eq_true q374
            go_upto_region 5 with (first | ((with_reducible refine gate_dst (N := 9) rfl ?_); refine box_event ?hg (N := 9) ?hd (cs := #[.int .i64 0, .int .i64 0, .int .i64 0, .int .i64 0, .int .i64 0, .int .i64 0, .int .i64 0, .bool false]) (t := 41) ?hr ?_; (case hd => rfl); (case hg => rfl); (case hr => first | (go_simp; done) | (go_simp; rfl)); intro gb375 hg w8 hbox hb; have n0_ := Aside0.mk (Kd.R_below (Kd.R_elderB (by (with_reducible repeat (first | apply Kd.R_alloc | apply Kd.R_drewN | apply Kd.R_drew)); exact HO_7.out) gb375 (Nat.le_of_eq hg.symm)) hb); have n1_ := Aside0.mk (below_step (by repeat (first | (with_reducible first | exact HB.out | apply below_alloc | apply pw_below_drewN | apply below_drew1) | exact HB.out)) hb); have n2_ := Aside0.mk (hbox); have n3_ := Aside0.mk ((by rw [hg]; exact (below_size (by repeat (first | (with_reducible first | exact HB.out | apply below_alloc | apply pw_below_drewN | apply below_drew1) | exact HB.out))) : w.heap.size ≤ gb375)); have n4_ := Aside0.mk ((by rw [hg]; exact (below_size (by repeat (first | (with_reducible first | exact HB.out | apply below_alloc | apply pw_below_drewN | apply below_drew1) | exact HB.out))) : w.heap.size ≤ gb375)); clear HO_7; clear HB; have HO_7 := n0_; have HB := n1_; have BK375 := n2_; have GW375 := n3_; have GE375 := n4_; clear n0_ n1_ n2_ n3_ n4_; clear hb hbox hg; have hcz9_0 : w8.cell? ⟨gb375, 0, none⟩ = some (.int .i64 0) := (blk_cell BK375.out 0).trans rfl; have hcz9_1 : w8.cell? ⟨gb375, 1, none⟩ = some (.int .i64 0) := (blk_cell BK375.out 1).trans rfl; have hcz9_2 : w8.cell? ⟨gb375, 2, none⟩ = some (.int .i64 0) := (blk_cell BK375.out 2).trans rfl; have hcz9_3 : w8.cell? ⟨gb375, 3, none⟩ = some (.int .i64 0) := (blk_cell BK375.out 3).trans rfl; have hcz9_4 : w8.cell? ⟨gb375, 4, none⟩ = some (.int .i64 0) := (blk_cell BK375.out 4).trans rfl; have hcz9_5 : w8.cell? ⟨gb375, 5, none⟩ = some (.int .i64 0) := (blk_cell BK375.out 5).trans rfl; have hcz9_6 : w8.cell? ⟨gb375, 6, none⟩ = some (.int .i64 0) := (blk_cell BK375.out 6).trans rfl; have hcz9_7 : w8.cell? ⟨gb375, 7, none⟩ = some (.bool false) := (blk_cell BK375.out 7).trans rfl; have hfz9_0 := blk_frozen BK375.out 0; have hfz9_1 := blk_frozen BK375.out 1; have hfz9_2 := blk_frozen BK375.out 2; have hfz9_3 := blk_frozen BK375.out 3; have hfz9_4 := blk_frozen BK375.out 4; have hfz9_5 := blk_frozen BK375.out 5; have hfz9_6 := blk_frozen BK375.out 6; have hfz9_7 := blk_frozen BK375.out 7))
            (try simp only [Act.put, List.setIfInBounds_toArray, List.set_cons_zero, List.set_cons_succ])
            go_cut [25] (fun v25 wc => ∃ (kq : Nat) (x25_6 : Bool), v25 = .bool x25_6 ∧ Aside0 (wrap_Clip.j1 kq a1 a2 x7_1 l0 (l0.length : Int) x12_1 x25_6 ((rd_T41 l0 x12_1).f0) ((rd_T41 l0 x12_1).f1) ((rd_T41 l0 x12_1).f2) ((rd_T41 l0 x12_1).f3.f0) ((rd_T41 l0 x12_1).f3.f1) ((rd_T41 l0 x12_1).f4.f0) ((rd_T41 l0 x12_1).f4.f1) ((rd_T41 l0 x12_1).f5) = some r) ∧ Aside0 (kq ≤ k1) ∧ Aside0 (Kd.R k41 41 wc w.heap.size (fun k_ => k_ ≠ gb375) u7 x7_1) ∧ Aside0 (wc.heap[gb375]? = some (.cells #[.int .i64 ((rd_T41 l0 x12_1).f0), .int .i64 ((rd_T41 l0 x12_1).f1), .int .i64 ((rd_T41 l0 x12_1).f2), .int .i64 ((rd_T41 l0 x12_1).f3.f0), .int .i64 ((rd_T41 l0 x12_1).f3.f1), .int .i64 ((rd_T41 l0 x12_1).f4.f0), .int .i64 ((rd_T41 l0 x12_1).f4.f1), .bool ((rd_T41 l0 x12_1).f5)] 41 (0, 0))) ∧ Aside0 (Below w.heap.size w wc))
            case first =>
              have H := HC7.out
              clear HC7
              replace H := Option.bind_eq_some_iff.mp H
              obtain ⟨t376, A100, H⟩ := H
              replace H : (if t376 = true then ((ratio_May.f k1 ((rd_T41 l0 x12_1).f4.f0) ((rd_T41 l0 x12_1).f4.f1)).bind fun t377 => (wrap_Clip.j1 k1 a1 a2 x7_1 l0 (l0.length : Int) x12_1 (!t377) ((rd_T41 l0 x12_1).f0) ((rd_T41 l0 x12_1).f1) ((rd_T41 l0 x12_1).f2) ((rd_T41 l0 x12_1).f3.f0) ((rd_T41 l0 x12_1).f3.f1) ((rd_T41 l0 x12_1).f4.f0) ((rd_T41 l0 x12_1).f4.f1) ((rd_T41 l0 x12_1).f5))) else (wrap_Clip.j1 k1 a1 a2 x7_1 l0 (l0.length : Int) x12_1 true ((rd_T41 l0 x12_1).f0) ((rd_T41 l0 x12_1).f1) ((rd_T41 l0 x12_1).f2) ((rd_T41 l0 x12_1).f3.f0) ((rd_T41 l0 x12_1).f3.f1) ((rd_T41 l0 x12_1).f4.f0) ((rd_T41 l0 x12_1).f4.f1) ((rd_T41 l0 x12_1).f5))) = some r := H
              have A10 := Aside0.mk A100
              clear A100
              by_cases c11 : t376 = true
              · subst c11
                have H1 : ((ratio_May.f k1 ((rd_T41 l0 x12_1).f4.f0) ((rd_T41 l0 x12_1).f4.f1)).bind fun t377 => (wrap_Clip.j1 k1 a1 a2 x7_1 l0 (l0.length : Int) x12_1 (!t377) ((rd_T41 l0 x12_1).f0) ((rd_T41 l0 x12_1).f1) ((rd_T41 l0 x12_1).f2) ((rd_T41 l0 x12_1).f3.f0) ((rd_T41 l0 x12_1).f3.f1) ((rd_T41 l0 x12_1).f4.f0) ((rd_T41 l0 x12_1).f4.f1) ((rd_T41 l0 x12_1).f5))) = some r := by rw [if_pos rfl] at H; exact H
                clear H
                have H := H1
                clear H1
                replace H := Option.bind_eq_some_iff.mp H
                obtain ⟨t377, A120, H⟩ := H
                replace H : (wrap_Clip.j1 k1 a1 a2 x7_1 l0 (l0.length : Int) x12_1 (!t377) ((rd_T41 l0 x12_1).f0) ((rd_T41 l0 x12_1).f1) ((rd_T41 l0 x12_1).f2) ((rd_T41 l0 x12_1).f3.f0) ((rd_T41 l0 x12_1).f3.f1) ((rd_T41 l0 x12_1).f4.f0) ((rd_T41 l0 x12_1).f4.f1) ((rd_T41 l0 x12_1).f5)) = some r := H
                have A12 := Aside0.mk A120
                clear A120
                have H' := Aside0.mk H
                clear H
                have hcz13_0 : w8.cell? ⟨gb375, 0, none⟩ = some (.int .i64 0) := (blk_cell BK375.out 0).trans rfl
                have hcz13_1 : w8.cell? ⟨gb375, 1, none⟩ = some (.int .i64 0) := (blk_cell BK375.out 1).trans rfl
                have hcz13_2 : w8.cell? ⟨gb375, 2, none⟩ = some (.int .i64 0) := (blk_cell BK375.out 2).trans rfl
                have hcz13_3 : w8.cell? ⟨gb375, 3, none⟩ = some (.int .i64 0) := (blk_cell BK375.out 3).trans rfl
                have hcz13_4 : w8.cell? ⟨gb375, 4, none⟩ = some (.int .i64 0) := (blk_cell BK375.out 4).trans rfl
                have hcz13_5 : w8.cell? ⟨gb375, 5, none⟩ = some (.int .i64 0) := (blk_cell BK375.out 5).trans rfl
                have hcz13_6 : w8.cell? ⟨gb375, 6, none⟩ = some (.int .i64 0) := (blk_cell BK375.out 6).trans rfl
                have hcz13_7 : w8.cell? ⟨gb375, 7, none⟩ = some (.bool false) := (blk_cell BK375.out 7).trans rfl
                have hfz13_0 := blk_frozen BK375.out 0
                have hfz13_1 := blk_frozen BK375.out 1
                have hfz13_2 := blk_frozen BK375.out 2
                have hfz13_3 := blk_frozen BK375.out 3
                have hfz13_4 := blk_frozen BK375.out 4
                have hfz13_5 := blk_frozen BK375.out 5
                have hfz13_6 := blk_frozen BK375.out 6
                have hfz13_7 := blk_frozen BK375.out 7
                go_wp2_with (first | ((with_reducible refine gate_callee (f := 32) rfl ?_); refine goesL_ (some 18) rfl rfl Try.func32 (by kernel_rfl) rfl #[.agg #[.int .i64 ((rd_T41 l0 x12_1).f3.f0), .int .i64 ((rd_T41 l0 x12_1).f3.f1)]] rfl (by (try simp only [List.map_toArray, List.map_cons, List.map_nil]); first | done | rfl | (simp only [List.length_drop, List.length_take]; rfl)) ?_; (with_reducible refine (ratio_May.calls k1 ((rd_T41 l0 x12_1).f3.f0) ((rd_T41 l0 x12_1).f3.f1) true _ A10.out).mono ?_); rintro e w14 ⟨rfl, hb⟩; refine ⟨_, rfl, ?_⟩; have n0_ := Aside0.mk (Kd.R_below (by (with_reducible repeat (first | apply Kd.R_alloc | apply Kd.R_drewN | apply Kd.R_drew)); exact (Kd.R_mono (Kd.R_far (p := ⟨gb375, 7, none⟩) (Kd.R_far (p := ⟨gb375, 6, none⟩) (Kd.R_far (p := ⟨gb375, 5, none⟩) (Kd.R_far (p := ⟨gb375, 4, none⟩) (Kd.R_far (p := ⟨gb375, 3, none⟩) (Kd.R_far (p := ⟨gb375, 2, none⟩) (Kd.R_far (p := ⟨gb375, 1, none⟩) (Kd.R_far (p := ⟨gb375, 0, none⟩) (Kd.R_mono HO_7.out (fun k_ hk => (⟨hk, hk.2⟩ : _ ∧ k_ ≠ gb375))) (fun _ hk => hk.2) (.int .i64 ((rd_T41 l0 x12_1).f0))) (fun _ hk => hk.2) (.int .i64 ((rd_T41 l0 x12_1).f1))) (fun _ hk => hk.2) (.int .i64 ((rd_T41 l0 x12_1).f2))) (fun _ hk => hk.2) (.int .i64 ((rd_T41 l0 x12_1).f3.f0))) (fun _ hk => hk.2) (.int .i64 ((rd_T41 l0 x12_1).f3.f1))) (fun _ hk => hk.2) (.int .i64 ((rd_T41 l0 x12_1).f4.f0))) (fun _ hk => hk.2) (.int .i64 ((rd_T41 l0 x12_1).f4.f1))) (fun _ hk => hk.2) (.bool ((rd_T41 l0 x12_1).f5))) (fun _ h_ => h_.1))) hb); have n1_ := Aside0.mk (blk_below (g := gb375) (o := .cells #[.int .i64 ((rd_T41 l0 x12_1).f0), .int .i64 ((rd_T41 l0 x12_1).f1), .int .i64 ((rd_T41 l0 x12_1).f2), .int .i64 ((rd_T41 l0 x12_1).f3.f0), .int .i64 ((rd_T41 l0 x12_1).f3.f1), .int .i64 ((rd_T41 l0 x12_1).f4.f0), .int .i64 ((rd_T41 l0 x12_1).f4.f1), .bool ((rd_T41 l0 x12_1).f5)] 41 (0, 0)) (by (with_reducible repeat (first | refine blk_drewN ?_ _ | refine blk_drew ?_ | refine blk_alloc ?_ _)); refine blk_put (cs := #[.int .i64 ((rd_T41 l0 x12_1).f0), .int .i64 ((rd_T41 l0 x12_1).f1), .int .i64 ((rd_T41 l0 x12_1).f2), .int .i64 ((rd_T41 l0 x12_1).f3.f0), .int .i64 ((rd_T41 l0 x12_1).f3.f1), .int .i64 ((rd_T41 l0 x12_1).f4.f0), .int .i64 ((rd_T41 l0 x12_1).f4.f1), .bool false]) ?_ 7 _ rfl; (with_reducible repeat (first | refine blk_drewN ?_ _ | refine blk_drew ?_ | refine blk_alloc ?_ _)); refine blk_put (cs := #[.int .i64 ((rd_T41 l0 x12_1).f0), .int .i64 ((rd_T41 l0 x12_1).f1), .int .i64 ((rd_T41 l0 x12_1).f2), .int .i64 ((rd_T41 l0 x12_1).f3.f0), .int .i64 ((rd_T41 l0 x12_1).f3.f1), .int .i64 ((rd_T41 l0 x12_1).f4.f0), .int .i64 0, .bool false]) ?_ 6 _ rfl; (with_reducible repeat (first | refine blk_drewN ?_ _ | refine blk_drew ?_ | refine blk_alloc ?_ _)); refine blk_put (cs := #[.int .i64 ((rd_T41 l0 x12_1).f0), .int .i64 ((rd_T41 l0 x12_1).f1), .int .i64 ((rd_T41 l0 x12_1).f2), .int .i64 ((rd_T41 l0 x12_1).f3.f0), .int .i64 ((rd_T41 l0 x12_1).f3.f1), .int .i64 0, .int .i64 0, .bool false]) ?_ 5 _ rfl; (with_reducible repeat (first | refine blk_drewN ?_ _ | refine blk_drew ?_ | refine blk_alloc ?_ _)); refine blk_put (cs := #[.int .i64 ((rd_T41 l0 x12_1).f0), .int .i64 ((rd_T41 l0 x12_1).f1), .int .i64 ((rd_T41 l0 x12_1).f2), .int .i64 ((rd_T41 l0 x12_1).f3.f0), .int .i64 0, .int .i64 0, .int .i64 0, .bool false]) ?_ 4 _ rfl; (with_reducible repeat (first | refine blk_drewN ?_ _ | refine blk_drew ?_ | refine blk_alloc ?_ _)); refine blk_put (cs := #[.int .i64 ((rd_T41 l0 x12_1).f0), .int .i64 ((rd_T41 l0 x12_1).f1), .int .i64 ((rd_T41 l0 x12_1).f2), .int .i64 0, .int .i64 0, .int .i64 0, .int .i64 0, .bool false]) ?_ 3 _ rfl; (with_reducible repeat (first | refine blk_drewN ?_ _ | refine blk_drew ?_ | refine blk_alloc ?_ _)); refine blk_put (cs := #[.int .i64 ((rd_T41 l0 x12_1).f0), .int .i64 ((rd_T41 l0 x12_1).f1), .int .i64 0, .int .i64 0, .int .i64 0, .int .i64 0, .int .i64 0, .bool false]) ?_ 2 _ rfl; (with_reducible repeat (first | refine blk_drewN ?_ _ | refine blk_drew ?_ | refine blk_alloc ?_ _)); refine blk_put (cs := #[.int .i64 ((rd_T41 l0 x12_1).f0), .int .i64 0, .int .i64 0, .int .i64 0, .int .i64 0, .int .i64 0, .int .i64 0, .bool false]) ?_ 1 _ rfl; (with_reducible repeat (first | refine blk_drewN ?_ _ | refine blk_drew ?_ | refine blk_alloc ?_ _)); refine blk_put (cs := #[.int .i64 0, .int .i64 0, .int .i64 0, .int .i64 0, .int .i64 0, .int .i64 0, .int .i64 0, .bool false]) ?_ 0 _ rfl; (with_reducible repeat (first | refine blk_drewN ?_ _ | refine blk_drew ?_ | refine blk_alloc ?_ _)); exact BK375.out) hb); have n2_ := Aside0.mk (below_step (by repeat (first | (with_reducible first | exact HB.out | apply below_alloc | apply pw_below_drewN | apply below_drew1 | refine below_set ?_ GE375.out) | exact HB.out)) hb); clear HO_7; clear BK375; clear HB; have HO_7 := n0_; have BK375 := n1_; have HB := n2_; clear n0_ n1_ n2_; (try clear hb); (try clear hb2); (try clear hk); (try clear hi); have hcz15_0 : w14.cell? ⟨gb375, 0, none⟩ = some (.int .i64 ((rd_T41 l0 x12_1).f0)) := (blk_cell BK375.out 0).trans rfl; have hcz15_1 : w14.cell? ⟨gb375, 1, none⟩ = some (.int .i64 ((rd_T41 l0 x12_1).f1)) := (blk_cell BK375.out 1).trans rfl; have hcz15_2 : w14.cell? ⟨gb375, 2, none⟩ = some (.int .i64 ((rd_T41 l0 x12_1).f2)) := (blk_cell BK375.out 2).trans rfl; have hcz15_3 : w14.cell? ⟨gb375, 3, none⟩ = some (.int .i64 ((rd_T41 l0 x12_1).f3.f0)) := (blk_cell BK375.out 3).trans rfl; have hcz15_4 : w14.cell? ⟨gb375, 4, none⟩ = some (.int .i64 ((rd_T41 l0 x12_1).f3.f1)) := (blk_cell BK375.out 4).trans rfl; have hcz15_5 : w14.cell? ⟨gb375, 5, none⟩ = some (.int .i64 ((rd_T41 l0 x12_1).f4.f0)) := (blk_cell BK375.out 5).trans rfl; have hcz15_6 : w14.cell? ⟨gb375, 6, none⟩ = some (.int .i64 ((rd_T41 l0 x12_1).f4.f1)) := (blk_cell BK375.out 6).trans rfl; have hcz15_7 : w14.cell? ⟨gb375, 7, none⟩ = some (.bool ((rd_T41 l0 x12_1).f5)) := (blk_cell BK375.out 7).trans rfl; have hfz15_0 := blk_frozen BK375.out 0; have hfz15_1 := blk_frozen BK375.out 1; have hfz15_2 := blk_frozen BK375.out 2; have hfz15_3 := blk_frozen BK375.out 3; have hfz15_4 := blk_frozen BK375.out 4; have hfz15_5 := blk_frozen BK375.out 5; have hfz15_6 := blk_frozen BK375.out 6; have hfz15_7 := blk_frozen BK375.out 7) | (go_at_call 32; (with_reducible refine (ratio_May.calls k1 ((rd_T41 l0 x12_1).f4.f0) ((rd_T41 l0 x12_1).f4.f1) t377 _ A12.out).mono ?_); rintro e w16 ⟨rfl, hb⟩; have n0_ := Aside0.mk (Kd.R_below (by (with_reducible repeat (first | apply Kd.R_alloc | apply Kd.R_drewN | apply Kd.R_drew)); exact HO_7.out) hb); have n1_ := Aside0.mk (blk_below (g := gb375) (o := .cells #[.int .i64 ((rd_T41 l0 x12_1).f0), .int .i64 ((rd_T41 l0 x12_1).f1), .int .i64 ((rd_T41 l0 x12_1).f2), .int .i64 ((rd_T41 l0 x12_1).f3.f0), .int .i64 ((rd_T41 l0 x12_1).f3.f1), .int .i64 ((rd_T41 l0 x12_1).f4.f0), .int .i64 ((rd_T41 l0 x12_1).f4.f1), .bool ((rd_T41 l0 x12_1).f5)] 41 (0, 0)) (by (with_reducible repeat (first | refine blk_drewN ?_ _ | refine blk_drew ?_ | refine blk_alloc ?_ _)); exact BK375.out) hb); have n2_ := Aside0.mk (below_step (by repeat (first | (with_reducible first | exact HB.out | apply below_alloc | apply pw_below_drewN | apply below_drew1 | refine below_set ?_ GE375.out) | exact HB.out)) hb); clear HO_7; clear BK375; clear HB; have HO_7 := n0_; have BK375 := n1_; have HB := n2_; clear n0_ n1_ n2_; (try clear hb); (try clear hb2); (try clear hk); (try clear hi)))
                go_meet
                case rel => exact ⟨_, (!t377), (by first | rfl | (simp; done) | (simp [*]; done)), H', ⟨by have := HK1.out; first | omega | exact Nat.le_refl _⟩, ⟨by (with_reducible repeat (first | apply Kd.R_alloc | apply Kd.R_drewN | apply Kd.R_drew)); exact Kd.R_mono HO_7.out (fun _ hk => hk.2)⟩, ⟨by (with_reducible repeat (first | refine blk_drewN ?_ _ | refine blk_drew ?_ | refine blk_alloc ?_ _)); exact BK375.out⟩, ⟨by repeat (first | (with_reducible first | exact HB.out | apply below_alloc | apply pw_below_drewN | apply below_drew1 | refine below_set ?_ GE375.out) | exact HB.out)⟩⟩
              · replace c11 := Bool.eq_false_iff.mpr c11
                subst c11
                have H1 : (wrap_Clip.j1 k1 a1 a2 x7_1 l0 (l0.length : Int) x12_1 true ((rd_T41 l0 x12_1).f0) ((rd_T41 l0 x12_1).f1) ((rd_T41 l0 x12_1).f2) ((rd_T41 l0 x12_1).f3.f0) ((rd_T41 l0 x12_1).f3.f1) ((rd_T41 l0 x12_1).f4.f0) ((rd_T41 l0 x12_1).f4.f1) ((rd_T41 l0 x12_1).f5)) = some r := by rw [if_neg (show ¬ (false = true) by decide)] at H; exact H
                clear H
                have H := H1
                clear H1
                have H' := Aside0.mk H
                clear H
                have hcz17_0 : w8.cell? ⟨gb375, 0, none⟩ = some (.int .i64 0) := (blk_cell BK375.out 0).trans rfl
                have hcz17_1 : w8.cell? ⟨gb375, 1, none⟩ = some (.int .i64 0) := (blk_cell BK375.out 1).trans rfl
                have hcz17_2 : w8.cell? ⟨gb375, 2, none⟩ = some (.int .i64 0) := (blk_cell BK375.out 2).trans rfl
                have hcz17_3 : w8.cell? ⟨gb375, 3, none⟩ = some (.int .i64 0) := (blk_cell BK375.out 3).trans rfl
                have hcz17_4 : w8.cell? ⟨gb375, 4, none⟩ = some (.int .i64 0) := (blk_cell BK375.out 4).trans rfl
                have hcz17_5 : w8.cell? ⟨gb375, 5, none⟩ = some (.int .i64 0) := (blk_cell BK375.out 5).trans rfl
                have hcz17_6 : w8.cell? ⟨gb375, 6, none⟩ = some (.int .i64 0) := (blk_cell BK375.out 6).trans rfl
                have hcz17_7 : w8.cell? ⟨gb375, 7, none⟩ = some (.bool false) := (blk_cell BK375.out 7).trans rfl
                have hfz17_0 := blk_frozen BK375.out 0
                have hfz17_1 := blk_frozen BK375.out 1
                have hfz17_2 := blk_frozen BK375.out 2
                have hfz17_3 := blk_frozen BK375.out 3
                have hfz17_4 := blk_frozen BK375.out 4
                have hfz17_5 := blk_frozen BK375.out 5
                have hfz17_6 := blk_frozen BK375.out 6
                have hfz17_7 := blk_frozen BK375.out 7
                go_wp2_with (first | ((with_reducible refine gate_callee (f := 32) rfl ?_); refine goesL_ (some 18) rfl rfl Try.func32 (by kernel_rfl) rfl #[.agg #[.int .i64 ((rd_T41 l0 x12_1).f3.f0), .int .i64 ((rd_T41 l0 x12_1).f3.f1)]] rfl (by (try simp only [List.map_toArray, List.map_cons, List.map_nil]); first | done | rfl | (simp only [List.length_drop, List.length_take]; rfl)) ?_; (with_reducible refine (ratio_May.calls k1 ((rd_T41 l0 x12_1).f3.f0) ((rd_T41 l0 x12_1).f3.f1) false _ A10.out).mono ?_); rintro e w18 ⟨rfl, hb⟩; refine ⟨_, rfl, ?_⟩; have n0_ := Aside0.mk (Kd.R_below (by (with_reducible repeat (first | apply Kd.R_alloc | apply Kd.R_drewN | apply Kd.R_drew)); exact (Kd.R_mono (Kd.R_far (p := ⟨gb375, 7, none⟩) (Kd.R_far (p := ⟨gb375, 6, none⟩) (Kd.R_far (p := ⟨gb375, 5, none⟩) (Kd.R_far (p := ⟨gb375, 4, none⟩) (Kd.R_far (p := ⟨gb375, 3, none⟩) (Kd.R_far (p := ⟨gb375, 2, none⟩) (Kd.R_far (p := ⟨gb375, 1, none⟩) (Kd.R_far (p := ⟨gb375, 0, none⟩) (Kd.R_mono HO_7.out (fun k_ hk => (⟨hk, hk.2⟩ : _ ∧ k_ ≠ gb375))) (fun _ hk => hk.2) (.int .i64 ((rd_T41 l0 x12_1).f0))) (fun _ hk => hk.2) (.int .i64 ((rd_T41 l0 x12_1).f1))) (fun _ hk => hk.2) (.int .i64 ((rd_T41 l0 x12_1).f2))) (fun _ hk => hk.2) (.int .i64 ((rd_T41 l0 x12_1).f3.f0))) (fun _ hk => hk.2) (.int .i64 ((rd_T41 l0 x12_1).f3.f1))) (fun _ hk => hk.2) (.int .i64 ((rd_T41 l0 x12_1).f4.f0))) (fun _ hk => hk.2) (.int .i64 ((rd_T41 l0 x12_1).f4.f1))) (fun _ hk => hk.2) (.bool ((rd_T41 l0 x12_1).f5))) (fun _ h_ => h_.1))) hb); have n1_ := Aside0.mk (blk_below (g := gb375) (o := .cells #[.int .i64 ((rd_T41 l0 x12_1).f0), .int .i64 ((rd_T41 l0 x12_1).f1), .int .i64 ((rd_T41 l0 x12_1).f2), .int .i64 ((rd_T41 l0 x12_1).f3.f0), .int .i64 ((rd_T41 l0 x12_1).f3.f1), .int .i64 ((rd_T41 l0 x12_1).f4.f0), .int .i64 ((rd_T41 l0 x12_1).f4.f1), .bool ((rd_T41 l0 x12_1).f5)] 41 (0, 0)) (by (with_reducible repeat (first | refine blk_drewN ?_ _ | refine blk_drew ?_ | refine blk_alloc ?_ _)); refine blk_put (cs := #[.int .i64 ((rd_T41 l0 x12_1).f0), .int .i64 ((rd_T41 l0 x12_1).f1), .int .i64 ((rd_T41 l0 x12_1).f2), .int .i64 ((rd_T41 l0 x12_1).f3.f0), .int .i64 ((rd_T41 l0 x12_1).f3.f1), .int .i64 ((rd_T41 l0 x12_1).f4.f0), .int .i64 ((rd_T41 l0 x12_1).f4.f1), .bool false]) ?_ 7 _ rfl; (with_reducible repeat (first | refine blk_drewN ?_ _ | refine blk_drew ?_ | refine blk_alloc ?_ _)); refine blk_put (cs := #[.int .i64 ((rd_T41 l0 x12_1).f0), .int .i64 ((rd_T41 l0 x12_1).f1), .int .i64 ((rd_T41 l0 x12_1).f2), .int .i64 ((rd_T41 l0 x12_1).f3.f0), .int .i64 ((rd_T41 l0 x12_1).f3.f1), .int .i64 ((rd_T41 l0 x12_1).f4.f0), .int .i64 0, .bool false]) ?_ 6 _ rfl; (with_reducible repeat (first | refine blk_drewN ?_ _ | refine blk_drew ?_ | refine blk_alloc ?_ _)); refine blk_put (cs := #[.int .i64 ((rd_T41 l0 x12_1).f0), .int .i64 ((rd_T41 l0 x12_1).f1), .int .i64 ((rd_T41 l0 x12_1).f2), .int .i64 ((rd_T41 l0 x12_1).f3.f0), .int .i64 ((rd_T41 l0 x12_1).f3.f1), .int .i64 0, .int .i64 0, .bool false]) ?_ 5 _ rfl; (with_reducible repeat (first | refine blk_drewN ?_ _ | refine blk_drew ?_ | refine blk_alloc ?_ _)); refine blk_put (cs := #[.int .i64 ((rd_T41 l0 x12_1).f0), .int .i64 ((rd_T41 l0 x12_1).f1), .int .i64 ((rd_T41 l0 x12_1).f2), .int .i64 ((rd_T41 l0 x12_1).f3.f0), .int .i64 0, .int .i64 0, .int .i64 0, .bool false]) ?_ 4 _ rfl; (with_reducible repeat (first | refine blk_drewN ?_ _ | refine blk_drew ?_ | refine blk_alloc ?_ _)); refine blk_put (cs := #[.int .i64 ((rd_T41 l0 x12_1).f0), .int .i64 ((rd_T41 l0 x12_1).f1), .int .i64 ((rd_T41 l0 x12_1).f2), .int .i64 0, .int .i64 0, .int .i64 0, .int .i64 0, .bool false]) ?_ 3 _ rfl; (with_reducible repeat (first | refine blk_drewN ?_ _ | refine blk_drew ?_ | refine blk_alloc ?_ _)); refine blk_put (cs := #[.int .i64 ((rd_T41 l0 x12_1).f0), .int .i64 ((rd_T41 l0 x12_1).f1), .int .i64 0, .int .i64 0, .int .i64 0, .int .i64 0, .int .i64 0, .bool false]) ?_ 2 _ rfl; (with_reducible repeat (first | refine blk_drewN ?_ _ | refine blk_drew ?_ | refine blk_alloc ?_ _)); refine blk_put (cs := #[.int .i64 ((rd_T41 l0 x12_1).f0), .int .i64 0, .int .i64 0, .int .i64 0, .int .i64 0, .int .i64 0, .int .i64 0, .bool false]) ?_ 1 _ rfl; (with_reducible repeat (first | refine blk_drewN ?_ _ | refine blk_drew ?_ | refine blk_alloc ?_ _)); refine blk_put (cs := #[.int .i64 0, .int .i64 0, .int .i64 0, .int .i64 0, .int .i64 0, .int .i64 0, .int .i64 0, .bool false]) ?_ 0 _ rfl; (with_reducible repeat (first | refine blk_drewN ?_ _ | refine blk_drew ?_ | refine blk_alloc ?_ _)); exact BK375.out) hb); have n2_ := Aside0.mk (below_step (by repeat (first | (with_reducible first | exact HB.out | apply below_alloc | apply pw_below_drewN | apply below_drew1 | refine below_set ?_ GE375.out) | exact HB.out)) hb); clear HO_7; clear BK375; clear HB; have HO_7 := n0_; have BK375 := n1_; have HB := n2_; clear n0_ n1_ n2_; (try clear hb); (try clear hb2); (try clear hk); (try clear hi)))
                go_meet
                case rel => exact ⟨_, (true), (by first | rfl | (simp; done) | (simp [*]; done)), H', ⟨by have := HK1.out; first | omega | exact Nat.le_refl _⟩, ⟨by (with_reducible repeat (first | apply Kd.R_alloc | apply Kd.R_drewN | apply Kd.R_drew)); exact Kd.R_mono HO_7.out (fun _ hk => hk.2)⟩, ⟨by (with_reducible repeat (first | refine blk_drewN ?_ _ | refine blk_drew ?_ | refine blk_alloc ?_ _)); exact BK375.out⟩, ⟨by repeat (first | (with_reducible first | exact HB.out | apply below_alloc | apply pw_below_drewN | apply below_drew1 | refine below_set ?_ GE375.out) | exact HB.out)⟩⟩
            case rest =>
              clear HC7
              try clear c1
              try clear p2
              try clear c3
              try clear p3
              try clear q3
              try clear hx3
              try clear c4
              try clear c4b0
              try clear c5
              try clear c5b0
              try clear c6
              try clear c6b0
              try clear c11
              try clear hcz13_0
              try clear hcz13_1
              try clear hcz13_2
              try clear hcz13_3
              try clear hcz13_4
              try clear hcz13_5
              try clear hcz13_6
              try clear hcz13_7
              try clear hcz15_0
              try clear hcz15_1
              try clear hcz15_2
              try clear hcz15_3
              try clear hcz15_4
              try clear hcz15_5
              try clear hcz15_6
              try clear hcz15_7
              try clear hcz17_0
              try clear hcz17_1
              try clear hcz17_2
              try clear hcz17_3
              try clear hcz17_4
              try clear hcz17_5
              try clear hcz17_6
              try clear hcz17_7
              try clear hcz9_0
              try clear hcz9_1
              try clear hcz9_2
              try clear hcz9_3
              try clear hcz9_4
              try clear hcz9_5
              try clear hcz9_6
              try clear hcz9_7
              try clear hfz13_0
              try clear hfz13_1
              try clear hfz13_2
              try clear hfz13_3
              try clear hfz13_4
              try clear hfz13_5
              try clear hfz13_6
              try clear hfz13_7
              try clear hfz15_0
              try clear hfz15_1
              try clear hfz15_2
              try clear hfz15_3
              try clear hfz15_4
              try clear hfz15_5
              try clear hfz15_6
              try clear hfz15_7
              try clear hfz17_0
              try clear hfz17_1
              try clear hfz17_2
              try clear hfz17_3
              try clear hfz17_4
              try clear hfz17_5
              try clear hfz17_6
              try clear hfz17_7
              try clear hfz9_0
              try clear hfz9_1
              try clear hfz9_2
              try clear hfz9_3
              try clear hfz9_4
              try clear hfz9_5
              try clear hfz9_6
              try clear hfz9_7
              try clear hx374_0
              try clear hx374_1
              try clear hx374_2
              try clear hx374_3
              try clear hx374_4
              try clear hx374_5
              try clear hx374_6
              try clear hx374_7
              try clear p2
              try clear p374
              try clear q374
              obtain ⟨kq, x25_6, rfl, HA, HJ6, HO_7, BK375, HB⟩ := hcut
              cases kq with
              | zero => exact absurd HA.out (by simp [wrap_Clip.j1])
              | succ kj6 =>
                have H := HA.out
                clear HA
                simp only [wrap_Clip.j1] at H
                by_cases c19 : x25_6 = true
                · subst c19
                  have H1 : (wrap_Clip.l0 kj6 a1 a2 x7_1 l0 (l0.length : Int) (wrap64 (x12_1 + 1))) = some r := by rw [if_pos rfl] at H; exact H
                  clear H
                  have H := H1
                  clear H1
                  have H' := Aside0.mk H
                  clear H
                  go_wp2
                  go_roundg kj6
                  case measure => have := HK1.out; have := HJ6.out; omega
                  case rel => exact ⟨(x7_1), (wrap64 (x12_1 + 1)), (by first | rfl | (simp; done) | (simp [*]; done)), H', ⟨by have := HK1.out; have := HJ6.out; omega⟩, ⟨by (with_reducible repeat (first | apply Kd.R_alloc | apply Kd.R_drewN | apply Kd.R_drew)); exact Kd.R_mono HO_7.out (fun _ hk => trivial)⟩, ⟨by repeat (first | (with_reducible first | exact HB.out | apply below_alloc | apply pw_below_drewN | apply below_drew1 | refine below_set ?_ GE375.out) | exact HB.out)⟩⟩
                · replace c19 := Bool.eq_false_iff.mpr c19
                  subst c19
                  have H1 : ((wrap_whole.f a1).bind fun bt378 => ((ratio_Cmp.f kj6 ((rd_T41 l0 x12_1).f3.f0) ((rd_T41 l0 x12_1).f3.f1) bt378.1 bt378.2).bind fun t380 => (if t380 < 0 then ((wrap_whole.f a1).bind fun bt381 => (wrap_Clip.j2 kj6 a1 a2 x7_1 l0 (l0.length : Int) x12_1 ((rd_T41 l0 x12_1).f0) ((rd_T41 l0 x12_1).f1) ((rd_T41 l0 x12_1).f2) bt381.1 bt381.2 ((rd_T41 l0 x12_1).f4.f0) ((rd_T41 l0 x12_1).f4.f1) ((rd_T41 l0 x12_1).f5))) else (wrap_Clip.j2 kj6 a1 a2 x7_1 l0 (l0.length : Int) x12_1 ((rd_T41 l0 x12_1).f0) ((rd_T41 l0 x12_1).f1) ((rd_T41 l0 x12_1).f2) ((rd_T41 l0 x12_1).f3.f0) ((rd_T41 l0 x12_1).f3.f1) ((rd_T41 l0 x12_1).f4.f0) ((rd_T41 l0 x12_1).f4.f1) ((rd_T41 l0 x12_1).f5))))) = some r := by rw [if_neg (show ¬ (false = true) by decide)] at H; exact H
                  clear H
                  have H := H1
                  clear H1
                  replace H := Option.bind_eq_some_iff.mp H
                  obtain ⟨⟨t378, t379⟩, A200, H⟩ := H
                  replace H : ((ratio_Cmp.f kj6 ((rd_T41 l0 x12_1).f3.f0) ((rd_T41 l0 x12_1).f3.f1) t378 t379).bind fun t380 => (if t380 < 0 then ((wrap_whole.f a1).bind fun bt381 => (wrap_Clip.j2 kj6 a1 a2 x7_1 l0 (l0.length : Int) x12_1 ((rd_T41 l0 x12_1).f0) ((rd_T41 l0 x12_1).f1) ((rd_T41 l0 x12_1).f2) bt381.1 bt381.2 ((rd_T41 l0 x12_1).f4.f0) ((rd_T41 l0 x12_1).f4.f1) ((rd_T41 l0 x12_1).f5))) else (wrap_Clip.j2 kj6 a1 a2 x7_1 l0 (l0.length : Int) x12_1 ((rd_T41 l0 x12_1).f0) ((rd_T41 l0 x12_1).f1) ((rd_T41 l0 x12_1).f2) ((rd_T41 l0 x12_1).f3.f0) ((rd_T41 l0 x12_1).f3.f1) ((rd_T41 l0 x12_1).f4.f0) ((rd_T41 l0 x12_1).f4.f1) ((rd_T41 l0 x12_1).f5)))) = some r := H
                  have A20 := Aside0.mk A200
                  clear A200
                  replace H := Option.bind_eq_some_iff.mp H
                  obtain ⟨t380, A210, H⟩ := H
                  replace H : (if t380 < 0 then ((wrap_whole.f a1).bind fun bt381 => (wrap_Clip.j2 kj6 a1 a2 x7_1 l0 (l0.length : Int) x12_1 ((rd_T41 l0 x12_1).f0) ((rd_T41 l0 x12_1).f1) ((rd_T41 l0 x12_1).f2) bt381.1 bt381.2 ((rd_T41 l0 x12_1).f4.f0) ((rd_T41 l0 x12_1).f4.f1) ((rd_T41 l0 x12_1).f5))) else (wrap_Clip.j2 kj6 a1 a2 x7_1 l0 (l0.length : Int) x12_1 ((rd_T41 l0 x12_1).f0) ((rd_T41 l0 x12_1).f1) ((rd_T41 l0 x12_1).f2) ((rd_T41 l0 x12_1).f3.f0) ((rd_T41 l0 x12_1).f3.f1) ((rd_T41 l0 x12_1).f4.f0) ((rd_T41 l0 x12_1).f4.f1) ((rd_T41 l0 x12_1).f5))) = some r := H
                  have A21 := Aside0.mk A210
                  clear A210
                  have HC22 := Aside0.mk H
                  clear H
                  try go_wp2
                  have n0_ := Aside0.mk (Kd.R_drew HO_7.out)
                  have n1_ := Aside0.mk (blk_drew BK375.out)
                  have n2_ := Aside0.mk (below_drew1 HB.out)
                  clear HO_7
                  clear BK375
                  clear HB
                  have HO_7 := n0_
                  have BK375 := n1_
                  have HB := n2_
                  clear n0_ n1_ n2_
                  refine start_ (n := 6) (S := fun w' => w'.cell? ⟨gb375, 0, none⟩ = some (.int .i64 ((rd_T41 l0 x12_1).f0)) ∧ w'.cell? ⟨gb375, 1, none⟩ = some (.int .i64 ((rd_T41 l0 x12_1).f1)) ∧ w'.cell? ⟨gb375, 2, none⟩ = some (.int .i64 ((rd_T41 l0 x12_1).f2)) ∧ w'.cell? ⟨gb375, 3, none⟩ = some (.int .i64 ((rd_T41 l0 x12_1).f3.f0)) ∧ w'.cell? ⟨gb375, 4, none⟩ = some (.int .i64 ((rd_T41 l0 x12_1).f3.f1)) ∧ w'.cell? ⟨gb375, 5, none⟩ = some (.int .i64 ((rd_T41 l0 x12_1).f4.f0)) ∧ w'.cell? ⟨gb375, 6, none⟩ = some (.int .i64 ((rd_T41 l0 x12_1).f4.f1)) ∧ w'.cell? ⟨gb375, 7, none⟩ = some (.bool ((rd_T41 l0 x12_1).f5))) (ds := []) #[false, false, false, false, false, false] (by kernel_rfl) rfl rfl ⟨(blk_cell BK375.out 0).trans rfl, (blk_cell BK375.out 1).trans rfl, (blk_cell BK375.out 2).trans rfl, (blk_cell BK375.out 3).trans rfl, (blk_cell BK375.out 4).trans rfl, (blk_cell BK375.out 5).trans rfl, (blk_cell BK375.out 6).trans rfl, (blk_cell BK375.out 7).trans rfl⟩ (fun hHeld => ?_)
                  generalize wc.drew = w23 at HO_7 BK375 HB hHeld ⊢
                  refine pure_ (i := 0) (N := some 26) (v := ?_) (a' := ?_) #[true, false, false, false, false, false] rfl rfl (by kernel_rfl) (fun _ _ _ h => h) (Or.inl ⟨by rfl, ?_⟩) ?_ ?_
                  rotate_left
                  · intro w'
                    go_simp
                    with_reducible rfl
                  rotate_left
                  · simp only [Act.put, List.setIfInBounds_toArray, List.set_cons_zero, List.set_cons_succ, i64_w, i32_w]
                    rfl
                  refine pure_ (i := 2) (N := some 28) (v := ?_) (a' := ?_) #[true, false, true, false, false, false] rfl rfl (by kernel_rfl) (fun _ _ _ h => h) (Or.inl ⟨by rfl, ?_⟩) ?_ ?_
                  rotate_left
                  · intro w'
                    go_simp
                    with_reducible rfl
                  rotate_left
                  · simp only [Act.put, List.setIfInBounds_toArray, List.set_cons_zero, List.set_cons_succ, i64_w, i32_w]
                    rfl
                  refine take_ (i := 1) (N := some 27) (v := ?_) (a' := ?_) #[true, true, true, false, false, false] rfl rfl (by kernel_rfl) (fun _ _ _ h => h) (Or.inl ⟨by rfl, ?_⟩) hHeld ?_ ?_
                  rotate_left
                  · rintro w' ⟨s0, s1, s2, s3, s4, s5, s6, s7⟩
                    go_simp
                    with_reducible rfl
                  rotate_left
                  · simp only [Act.put, List.setIfInBounds_toArray, List.set_cons_zero, List.set_cons_succ, i64_w, i32_w]
                    rfl
                  refine one_ (i := 3) (N := some 29) #[true, true, true, true, false, false] rfl rfl (by kernel_rfl) (by decide) (fun K hK => ?_)
                  refine goes_ Try.func24 (by kernel_rfl) rfl #[.int .i64 a1] (by rfl) rfl rfl (by (try simp only [List.map_toArray, List.map_cons, List.map_nil]); first | done | rfl | (simp only [List.length_drop, List.length_take]; rfl)) ?_
                  with_reducible refine (wrap_whole.calls a1 t378 t379 _ A20.out).mono ?_
                  rintro e w24 ⟨rfl, hb⟩
                  refine ⟨_, rfl, ?_⟩
                  have n0_ := Aside0.mk (Kd.R_below (by (with_reducible repeat (first | apply Kd.R_alloc | apply Kd.R_drewN | apply Kd.R_drew)); exact HO_7.out) hb)
                  have n1_ := Aside0.mk (blk_below (g := gb375) (o := .cells #[.int .i64 ((rd_T41 l0 x12_1).f0), .int .i64 ((rd_T41 l0 x12_1).f1), .int .i64 ((rd_T41 l0 x12_1).f2), .int .i64 ((rd_T41 l0 x12_1).f3.f0), .int .i64 ((rd_T41 l0 x12_1).f3.f1), .int .i64 ((rd_T41 l0 x12_1).f4.f0), .int .i64 ((rd_T41 l0 x12_1).f4.f1), .bool ((rd_T41 l0 x12_1).f5)] 41 (0, 0)) (by (with_reducible repeat (first | refine blk_drewN ?_ _ | refine blk_drew ?_ | refine blk_alloc ?_ _)); exact BK375.out) hb)
                  have n2_ := Aside0.mk (below_step (by repeat (first | (with_reducible first | exact HB.out | apply below_alloc | apply pw_below_drewN | apply below_drew1 | refine below_set ?_ GE375.out) | exact HB.out)) hb)
                  clear HO_7
                  clear BK375
                  clear HB
                  have HO_7 := n0_
                  have BK375 := n1_
                  have HB := n2_
                  clear n0_ n1_ n2_
                  (try clear hb)
                  (try clear hb2)
                  (try clear hk)
                  (try clear hi)
                  refine hK.out _ _ ⟨(blk_cell BK375.out 0).trans rfl, (blk_cell BK375.out 1).trans rfl, (blk_cell BK375.out 2).trans rfl, (blk_cell BK375.out 3).trans rfl, (blk_cell BK375.out 4).trans rfl, (blk_cell BK375.out 5).trans rfl, (blk_cell BK375.out 6).trans rfl, (blk_cell BK375.out 7).trans rfl⟩ (fun hHeld => ?_)
                  clear hK K
                  refine norm_ (a' := ?_) ?_ ?_
                  rotate_left
                  · show Act.put _ (some 29) _ = _
                    simp only [Act.put, List.setIfInBounds_toArray, List.set_cons_zero, List.set_cons_succ, i64_w, i32_w]
                    rfl
                  refine one_ (i := 4) (N := some 30) #[true, true, true, true, true, false] rfl rfl (by kernel_rfl) (by decide) (fun K hK => ?_)
                  refine goes_ Try.func28 (by kernel_rfl) rfl #[.agg #[.int .i64 ((rd_T41 l0 x12_1).f3.f0), .int .i64 ((rd_T41 l0 x12_1).f3.f1)], .agg #[.int .i64 t378, .int .i64 t379]] (by rfl) rfl rfl (by (try simp only [List.map_toArray, List.map_cons, List.map_nil]); first | done | rfl | (simp only [List.length_drop, List.length_take]; rfl)) ?_
                  with_reducible refine (ratio_Cmp.calls kj6 ((rd_T41 l0 x12_1).f3.f0) ((rd_T41 l0 x12_1).f3.f1) t378 t379 t380 _ A21.out).mono ?_
                  rintro e w25 ⟨rfl, hb⟩
                  refine ⟨_, rfl, ?_⟩
                  have n0_ := Aside0.mk (Kd.R_below (by (with_reducible repeat (first | apply Kd.R_alloc | apply Kd.R_drewN | apply Kd.R_drew)); exact HO_7.out) hb)
                  have n1_ := Aside0.mk (blk_below (g := gb375) (o := .cells #[.int .i64 ((rd_T41 l0 x12_1).f0), .int .i64 ((rd_T41 l0 x12_1).f1), .int .i64 ((rd_T41 l0 x12_1).f2), .int .i64 ((rd_T41 l0 x12_1).f3.f0), .int .i64 ((rd_T41 l0 x12_1).f3.f1), .int .i64 ((rd_T41 l0 x12_1).f4.f0), .int .i64 ((rd_T41 l0 x12_1).f4.f1), .bool ((rd_T41 l0 x12_1).f5)] 41 (0, 0)) (by (with_reducible repeat (first | refine blk_drewN ?_ _ | refine blk_drew ?_ | refine blk_alloc ?_ _)); exact BK375.out) hb)
                  have n2_ := Aside0.mk (below_step (by repeat (first | (with_reducible first | exact HB.out | apply below_alloc | apply pw_below_drewN | apply below_drew1 | refine below_set ?_ GE375.out) | exact HB.out)) hb)
                  clear HO_7
                  clear BK375
                  clear HB
                  have HO_7 := n0_
                  have BK375 := n1_
                  have HB := n2_
                  clear n0_ n1_ n2_
                  (try clear hb)
                  (try clear hb2)
                  (try clear hk)
                  (try clear hi)
                  refine hK.out _ _ ⟨(blk_cell BK375.out 0).trans rfl, (blk_cell BK375.out 1).trans rfl, (blk_cell BK375.out 2).trans rfl, (blk_cell BK375.out 3).trans rfl, (blk_cell BK375.out 4).trans rfl, (blk_cell BK375.out 5).trans rfl, (blk_cell BK375.out 6).trans rfl, (blk_cell BK375.out 7).trans rfl⟩ (fun hHeld => ?_)
                  clear hK K
                  refine norm_ (a' := ?_) ?_ ?_
                  rotate_left
                  · show Act.put _ (some 30) _ = _
                    simp only [Act.put, List.setIfInBounds_toArray, List.set_cons_zero, List.set_cons_succ, i64_w, i32_w]
                    rfl
                  refine pure_ (i := 5) (N := some 31) (v := ?_) (a' := ?_) #[true, true, true, true, true, true] rfl rfl (by kernel_rfl) (fun _ _ _ h => h) (Or.inl ⟨by rfl, ?_⟩) ?_ ?_
                  rotate_left
                  · intro w'
                    go_simp
                    with_reducible rfl
                  rotate_left
                  · simp only [Act.put, List.setIfInBounds_toArray, List.set_cons_zero, List.set_cons_succ, i64_w, i32_w]
                    rfl
                  refine done_ (by kernel_rfl) ?_
                  go_upto_if 31 with (fail)
                  go_cut [] (fun wc => ∃ (kq : Nat) (x376003_21 : Int) (x376004_21 : Int), Aside0 (wrap_Clip.j2 kq a1 a2 x7_1 l0 (l0.length : Int) x12_1 ((rd_T41 l0 x12_1).f0) ((rd_T41 l0 x12_1).f1) ((rd_T41 l0 x12_1).f2) x376003_21 x376004_21 ((rd_T41 l0 x12_1).f4.f0) ((rd_T41 l0 x12_1).f4.f1) ((rd_T41 l0 x12_1).f5) = some r) ∧ Aside0 (kq ≤ kj6) ∧ Aside0 (Kd.R k41 41 wc w.heap.size (fun k_ => k_ ≠ gb375) u7 x7_1) ∧ Aside0 (wc.heap[gb375]? = some (.cells #[.int .i64 ((rd_T41 l0 x12_1).f0), .int .i64 ((rd_T41 l0 x12_1).f1), .int .i64 ((rd_T41 l0 x12_1).f2), .int .i64 x376003_21, .int .i64 x376004_21, .int .i64 ((rd_T41 l0 x12_1).f4.f0), .int .i64 ((rd_T41 l0 x12_1).f4.f1), .bool ((rd_T41 l0 x12_1).f5)] 41 (0, 0))) ∧ Aside0 (Below w.heap.size w wc))
                  case first =>
                    have H := HC22.out
                    clear HC22
                    by_cases c26 : t380 < 0
                    · rw [if_pos c26] at H
                      have c26b0 : decide (t380 < 0) = true := decide_eq_true c26
                      clear c26
                      (first | rw [c26b0] | (simp only [i64_w, i32_w]; rw [c26b0]) | skip)
                      replace H := Option.bind_eq_some_iff.mp H
                      obtain ⟨⟨t381, t382⟩, A270, H⟩ := H
                      replace H : (wrap_Clip.j2 kj6 a1 a2 x7_1 l0 (l0.length : Int) x12_1 ((rd_T41 l0 x12_1).f0) ((rd_T41 l0 x12_1).f1) ((rd_T41 l0 x12_1).f2) t381 t382 ((rd_T41 l0 x12_1).f4.f0) ((rd_T41 l0 x12_1).f4.f1) ((rd_T41 l0 x12_1).f5)) = some r := H
                      have A27 := Aside0.mk A270
                      clear A270
                      have H' := Aside0.mk H
                      clear H
                      go_wp2_with (first | ((with_reducible refine gate_callee (f := 24) rfl ?_); refine goesL_ (some 33) rfl rfl Try.func24 (by kernel_rfl) rfl #[.int .i64 a1] rfl (by (try simp only [List.map_toArray, List.map_cons, List.map_nil]); first | done | rfl | (simp only [List.length_drop, List.length_take]; rfl)) ?_; (with_reducible refine (wrap_whole.calls a1 t381 t382 _ A27.out).mono ?_); rintro e w28 ⟨rfl, hb⟩; refine ⟨_, rfl, ?_⟩; have n0_ := Aside0.mk (Kd.R_below (by (with_reducible repeat (first | apply Kd.R_alloc | apply Kd.R_drewN | apply Kd.R_drew)); exact HO_7.out) hb); have n1_ := Aside0.mk (blk_below (g := gb375) (o := .cells #[.int .i64 ((rd_T41 l0 x12_1).f0), .int .i64 ((rd_T41 l0 x12_1).f1), .int .i64 ((rd_T41 l0 x12_1).f2), .int .i64 ((rd_T41 l0 x12_1).f3.f0), .int .i64 ((rd_T41 l0 x12_1).f3.f1), .int .i64 ((rd_T41 l0 x12_1).f4.f0), .int .i64 ((rd_T41 l0 x12_1).f4.f1), .bool ((rd_T41 l0 x12_1).f5)] 41 (0, 0)) (by (with_reducible repeat (first | refine blk_drewN ?_ _ | refine blk_drew ?_ | refine blk_alloc ?_ _)); exact BK375.out) hb); have n2_ := Aside0.mk (below_step (by repeat (first | (with_reducible first | exact HB.out | apply below_alloc | apply pw_below_drewN | apply below_drew1 | refine below_set ?_ GE375.out) | exact HB.out)) hb); clear HO_7; clear BK375; clear HB; have HO_7 := n0_; have BK375 := n1_; have HB := n2_; clear n0_ n1_ n2_; (try clear hb); (try clear hb2); (try clear hk); (try clear hi); have hcz29_0 : w28.cell? ⟨gb375, 0, none⟩ = some (.int .i64 ((rd_T41 l0 x12_1).f0)) := (blk_cell BK375.out 0).trans rfl; have hcz29_1 : w28.cell? ⟨gb375, 1, none⟩ = some (.int .i64 ((rd_T41 l0 x12_1).f1)) := (blk_cell BK375.out 1).trans rfl; have hcz29_2 : w28.cell? ⟨gb375, 2, none⟩ = some (.int .i64 ((rd_T41 l0 x12_1).f2)) := (blk_cell BK375.out 2).trans rfl; have hcz29_3 : w28.cell? ⟨gb375, 3, none⟩ = some (.int .i64 ((rd_T41 l0 x12_1).f3.f0)) := (blk_cell BK375.out 3).trans rfl; have hcz29_4 : w28.cell? ⟨gb375, 4, none⟩ = some (.int .i64 ((rd_T41 l0 x12_1).f3.f1)) := (blk_cell BK375.out 4).trans rfl; have hcz29_5 : w28.cell? ⟨gb375, 5, none⟩ = some (.int .i64 ((rd_T41 l0 x12_1).f4.f0)) := (blk_cell BK375.out 5).trans rfl; have hcz29_6 : w28.cell? ⟨gb375, 6, none⟩ = some (.int .i64 ((rd_T41 l0 x12_1).f4.f1)) := (blk_cell BK375.out 6).trans rfl; have hcz29_7 : w28.cell? ⟨gb375, 7, none⟩ = some (.bool ((rd_T41 l0 x12_1).f5)) := (blk_cell BK375.out 7).trans rfl; have hfz29_0 := blk_frozen BK375.out 0; have hfz29_1 := blk_frozen BK375.out 1; have hfz29_2 := blk_frozen BK375.out 2; have hfz29_3 := blk_frozen BK375.out 3; have hfz29_4 := blk_frozen BK375.out 4; have hfz29_5 := blk_frozen BK375.out 5; have hfz29_6 := blk_frozen BK375.out 6; have hfz29_7 := blk_frozen BK375.out 7))
                      go_meet
                      case rel => exact ⟨_, (t381), (t382), H', ⟨by have := HK1.out; have := HJ6.out; first | omega | exact Nat.le_refl _⟩, ⟨by (with_reducible repeat (first | apply Kd.R_alloc | apply Kd.R_drewN | apply Kd.R_drew)); exact Kd.R_mono (Kd.R_far (p := ⟨gb375, 4, none⟩) (Kd.R_far (p := ⟨gb375, 3, none⟩) (Kd.R_mono HO_7.out (fun k_ hk => (⟨hk, hk⟩ : _ ∧ k_ ≠ gb375))) (fun _ hk => hk.2) (.int .i64 t381)) (fun _ hk => hk.2) (.int .i64 t382)) (fun _ hk => hk.1)⟩, ⟨by (with_reducible repeat (first | refine blk_drewN ?_ _ | refine blk_drew ?_ | refine blk_alloc ?_ _)); refine blk_put (cs := #[.int .i64 ((rd_T41 l0 x12_1).f0), .int .i64 ((rd_T41 l0 x12_1).f1), .int .i64 ((rd_T41 l0 x12_1).f2), .int .i64 t381, .int .i64 ((rd_T41 l0 x12_1).f3.f1), .int .i64 ((rd_T41 l0 x12_1).f4.f0), .int .i64 ((rd_T41 l0 x12_1).f4.f1), .bool ((rd_T41 l0 x12_1).f5)]) ?_ 4 _ rfl; (with_reducible repeat (first | refine blk_drewN ?_ _ | refine blk_drew ?_ | refine blk_alloc ?_ _)); refine blk_put (cs := #[.int .i64 ((rd_T41 l0 x12_1).f0), .int .i64 ((rd_T41 l0 x12_1).f1), .int .i64 ((rd_T41 l0 x12_1).f2), .int .i64 ((rd_T41 l0 x12_1).f3.f0), .int .i64 ((rd_T41 l0 x12_1).f3.f1), .int .i64 ((rd_T41 l0 x12_1).f4.f0), .int .i64 ((rd_T41 l0 x12_1).f4.f1), .bool ((rd_T41 l0 x12_1).f5)]) ?_ 3 _ rfl; (with_reducible repeat (first | refine blk_drewN ?_ _ | refine blk_drew ?_ | refine blk_alloc ?_ _)); exact BK375.out⟩, ⟨by repeat (first | (with_reducible first | exact HB.out | apply below_alloc | apply pw_below_drewN | apply below_drew1 | refine below_set ?_ GE375.out) | exact HB.out)⟩⟩
                    · rw [if_neg c26] at H
                      have c26b0 : decide (t380 < 0) = false := decide_eq_false c26
                      clear c26
                      (first | rw [c26b0] | (simp only [i64_w, i32_w]; rw [c26b0]) | skip)
                      have H' := Aside0.mk H
                      clear H
                      go_wp2
                      go_meet
                      case rel => exact ⟨_, (((rd_T41 l0 x12_1).f3.f0)), (((rd_T41 l0 x12_1).f3.f1)), H', ⟨by have := HK1.out; have := HJ6.out; first | omega | exact Nat.le_refl _⟩, ⟨by (with_reducible repeat (first | apply Kd.R_alloc | apply Kd.R_drewN | apply Kd.R_drew)); exact HO_7.out⟩, ⟨by (with_reducible repeat (first | refine blk_drewN ?_ _ | refine blk_drew ?_ | refine blk_alloc ?_ _)); exact BK375.out⟩, ⟨by repeat (first | (with_reducible first | exact HB.out | apply below_alloc | apply pw_below_drewN | apply below_drew1 | refine below_set ?_ GE375.out) | exact HB.out)⟩⟩
                  case rest =>
                    clear HC22
                    try clear c1
                    try clear c2
                    try clear p2
                    try clear c3
                    try clear p3
                    try clear q3
                    try clear hx3
                    try clear c4
                    try clear c4b0
                    try clear c5
                    try clear c5b0
                    try clear c6
                    try clear c6b0
                    try clear p6
                    try clear c11
                    try clear c19
                    try clear c24
                    try clear c26
                    try clear c26b0
                    try clear c28
                    try clear hcz13_0
                    try clear hcz13_1
                    try clear hcz13_2
                    try clear hcz13_3
                    try clear hcz13_4
                    try clear hcz13_5
                    try clear hcz13_6
                    try clear hcz13_7
                    try clear hcz15_0
                    try clear hcz15_1
                    try clear hcz15_2
                    try clear hcz15_3
                    try clear hcz15_4
                    try clear hcz15_5
                    try clear hcz15_6
                    try clear hcz15_7
                    try clear hcz17_0
                    try clear hcz17_1
                    try clear hcz17_2
                    try clear hcz17_3
                    try clear hcz17_4
                    try clear hcz17_5
                    try clear hcz17_6
                    try clear hcz17_7
                    try clear hcz29_0
                    try clear hcz29_1
                    try clear hcz29_2
                    try clear hcz29_3
                    try clear hcz29_4
                    try clear hcz29_5
                    try clear hcz29_6
                    try clear hcz29_7
                    try clear hcz9_0
                    try clear hcz9_1
                    try clear hcz9_2
                    try clear hcz9_3
                    try clear hcz9_4
                    try clear hcz9_5
                    try clear hcz9_6
                    try clear hcz9_7
                    try clear hfz13_0
                    try clear hfz13_1
                    try clear hfz13_2
                    try clear hfz13_3
                    try clear hfz13_4
                    try clear hfz13_5
                    try clear hfz13_6
                    try clear hfz13_7
                    try clear hfz15_0
                    try clear hfz15_1
                    try clear hfz15_2
                    try clear hfz15_3
                    try clear hfz15_4
                    try clear hfz15_5
                    try clear hfz15_6
                    try clear hfz15_7
                    try clear hfz17_0
                    try clear hfz17_1
                    try clear hfz17_2
                    try clear hfz17_3
                    try clear hfz17_4
                    try clear hfz17_5
                    try clear hfz17_6
                    try clear hfz17_7
                    try clear hfz29_0
                    try clear hfz29_1
                    try clear hfz29_2
                    try clear hfz29_3
                    try clear hfz29_4
                    try clear hfz29_5
                    try clear hfz29_6
                    try clear hfz29_7
                    try clear hfz9_0
                    try clear hfz9_1
                    try clear hfz9_2
                    try clear hfz9_3
                    try clear hfz9_4
                    try clear hfz9_5
                    try clear hfz9_6
                    try clear hfz9_7
                    try clear hx374_0
                    try clear hx374_1
                    try clear hx374_2
                    try clear hx374_3
                    try clear hx374_4
                    try clear hx374_5
                    try clear hx374_6
                    try clear hx374_7
                    try clear p2
                    try clear p3
                    try clear p374
                    try clear q3
                    try clear q374
                    obtain ⟨kq, x376003_21, x376004_21, HA, HJ21, HO_7, BK375, HB⟩ := hcut
                    cases kq with
                    | zero => exact absurd HA.out (by simp [wrap_Clip.j2])
                    | succ kj21 =>
                      have H := HA.out
                      clear HA
                      simp only [wrap_Clip.j2] at H
                      replace H := Option.bind_eq_some_iff.mp H
                      obtain ⟨⟨t383, t384⟩, A300, H⟩ := H
                      replace H : ((wrap_less.f kj21 ((rd_T41 l0 x12_1).f4.f0) ((rd_T41 l0 x12_1).f4.f1) t383 t384).bind fun bt385 => ((ratio_Cmp.f kj21 x376003_21 x376004_21 bt385.1 bt385.2).bind fun t387 => (if t387 < 0 then (if x7_1.length < 2199023255552 then (wrap_Clip.l0 kj21 a1 a2 (x7_1 ++ [(⟨((rd_T41 l0 x12_1).f0), ((rd_T41 l0 x12_1).f1), ((rd_T41 l0 x12_1).f2), (⟨x376003_21, x376004_21⟩ : S37), (⟨bt385.1, bt385.2⟩ : S37), ((rd_T41 l0 x12_1).f5)⟩ : S41)]) l0 (l0.length : Int) (wrap64 (x12_1 + 1))) else (none)) else (wrap_Clip.l0 kj21 a1 a2 x7_1 l0 (l0.length : Int) (wrap64 (x12_1 + 1)))))) = some r := H
                      have A30 := Aside0.mk A300
                      clear A300
                      replace H := Option.bind_eq_some_iff.mp H
                      obtain ⟨⟨t385, t386⟩, A310, H⟩ := H
                      replace H : ((ratio_Cmp.f kj21 x376003_21 x376004_21 t385 t386).bind fun t387 => (if t387 < 0 then (if x7_1.length < 2199023255552 then (wrap_Clip.l0 kj21 a1 a2 (x7_1 ++ [(⟨((rd_T41 l0 x12_1).f0), ((rd_T41 l0 x12_1).f1), ((rd_T41 l0 x12_1).f2), (⟨x376003_21, x376004_21⟩ : S37), (⟨t385, t386⟩ : S37), ((rd_T41 l0 x12_1).f5)⟩ : S41)]) l0 (l0.length : Int) (wrap64 (x12_1 + 1))) else (none)) else (wrap_Clip.l0 kj21 a1 a2 x7_1 l0 (l0.length : Int) (wrap64 (x12_1 + 1))))) = some r := H
                      have A31 := Aside0.mk A310
                      clear A310
                      replace H := Option.bind_eq_some_iff.mp H
                      obtain ⟨t387, A320, H⟩ := H
                      replace H : (if t387 < 0 then (if x7_1.length < 2199023255552 then (wrap_Clip.l0 kj21 a1 a2 (x7_1 ++ [(⟨((rd_T41 l0 x12_1).f0), ((rd_T41 l0 x12_1).f1), ((rd_T41 l0 x12_1).f2), (⟨x376003_21, x376004_21⟩ : S37), (⟨t385, t386⟩ : S37), ((rd_T41 l0 x12_1).f5)⟩ : S41)]) l0 (l0.length : Int) (wrap64 (x12_1 + 1))) else (none)) else (wrap_Clip.l0 kj21 a1 a2 x7_1 l0 (l0.length : Int) (wrap64 (x12_1 + 1)))) = some r := H
                      have A32 := Aside0.mk A320
                      clear A320
                      by_cases c33 : t387 < 0
                      · rw [if_pos c33] at H
                        have c33b0 : decide (t387 < 0) = true := decide_eq_true c33
                        clear c33
                        by_cases c34 : x7_1.length < 2199023255552
                        · rw [if_pos c34] at H
                          have LMc34 := Aside0.mk c34
                          clear c34
                          obtain ⟨y388, hy388⟩ : ∃ y_ : List (S41), y_ = (x7_1 ++ [(⟨((rd_T41 l0 x12_1).f0), ((rd_T41 l0 x12_1).f1), ((rd_T41 l0 x12_1).f2), (⟨x376003_21, x376004_21⟩ : S37), (⟨t385, t386⟩ : S37), ((rd_T41 l0 x12_1).f5)⟩ : S41)]) := ⟨_, rfl⟩
                          replace H : (wrap_Clip.l0 kj21 a1 a2 y388 l0 (l0.length : Int) (wrap64 (x12_1 + 1))) = some r := by first | (rw [hy388]; with_reducible exact H) | (have H2_ := (Option.bind_some _ _).symm.trans H; rw [hy388]; with_reducible exact H2_) | (have H2_ := (Option.bind_some _ _).symm.trans H; with_reducible exact H2_) | with_reducible exact H | (rw [hy388]; exact H) | exact H
                          have Ny388 := Aside0.mk hy388
                          clear hy388
                          have H' := Aside0.mk H
                          clear H
                          try go_wp2
                          have n0_ := Aside0.mk (Kd.R_drew HO_7.out)
                          have n1_ := Aside0.mk (blk_drew BK375.out)
                          have n2_ := Aside0.mk (below_drew1 HB.out)
                          clear HO_7
                          clear BK375
                          clear HB
                          have HO_7 := n0_
                          have BK375 := n1_
                          have HB := n2_
                          clear n0_ n1_ n2_
                          refine start_ (n := 7) (S := fun w' => w'.cell? ⟨gb375, 0, none⟩ = some (.int .i64 ((rd_T41 l0 x12_1).f0)) ∧ w'.cell? ⟨gb375, 1, none⟩ = some (.int .i64 ((rd_T41 l0 x12_1).f1)) ∧ w'.cell? ⟨gb375, 2, none⟩ = some (.int .i64 ((rd_T41 l0 x12_1).f2)) ∧ w'.cell? ⟨gb375, 3, none⟩ = some (.int .i64 x376003_21) ∧ w'.cell? ⟨gb375, 4, none⟩ = some (.int .i64 x376004_21) ∧ w'.cell? ⟨gb375, 5, none⟩ = some (.int .i64 ((rd_T41 l0 x12_1).f4.f0)) ∧ w'.cell? ⟨gb375, 6, none⟩ = some (.int .i64 ((rd_T41 l0 x12_1).f4.f1)) ∧ w'.cell? ⟨gb375, 7, none⟩ = some (.bool ((rd_T41 l0 x12_1).f5))) (ds := [6]) #[false, false, false, false, false, false, false] (by kernel_rfl) rfl rfl ⟨(blk_cell BK375.out 0).trans rfl, (blk_cell BK375.out 1).trans rfl, (blk_cell BK375.out 2).trans rfl, (blk_cell BK375.out 3).trans rfl, (blk_cell BK375.out 4).trans rfl, (blk_cell BK375.out 5).trans rfl, (blk_cell BK375.out 6).trans rfl, (blk_cell BK375.out 7).trans rfl⟩ (fun hHeld => ?_)
                          generalize wc.drew = w35 at HO_7 BK375 HB hHeld ⊢
                          refine pure_ (i := 0) (N := some 35) (v := ?_) (a' := ?_) #[true, false, false, false, false, false, false] rfl rfl (by kernel_rfl) (fun _ _ _ h => h) (Or.inl ⟨by rfl, ?_⟩) ?_ ?_
                          rotate_left
                          · intro w'
                            go_simp
                            with_reducible rfl
                          rotate_left
                          · simp only [Act.put, List.setIfInBounds_toArray, List.set_cons_zero, List.set_cons_succ, i64_w, i32_w]
                            rfl
                          refine pure_ (i := 2) (N := some 37) (v := ?_) (a' := ?_) #[true, false, true, false, false, false, false] rfl rfl (by kernel_rfl) (fun _ _ _ h => h) (Or.inl ⟨by rfl, ?_⟩) ?_ ?_
                          rotate_left
                          · intro w'
                            go_simp
                            with_reducible rfl
                          rotate_left
                          · simp only [Act.put, List.setIfInBounds_toArray, List.set_cons_zero, List.set_cons_succ, i64_w, i32_w]
                            rfl
                          refine take_ (i := 1) (N := some 36) (v := ?_) (a' := ?_) #[true, true, true, false, false, false, false] rfl rfl (by kernel_rfl) (fun _ _ _ h => h) (Or.inl ⟨by rfl, ?_⟩) hHeld ?_ ?_
                          rotate_left
                          · rintro w' ⟨s0, s1, s2, s3, s4, s5, s6, s7⟩
                            go_simp
                            with_reducible rfl
                          rotate_left
                          · simp only [Act.put, List.setIfInBounds_toArray, List.set_cons_zero, List.set_cons_succ, i64_w, i32_w]
                            rfl
                          refine one_ (i := 3) (N := some 38) #[true, true, true, true, false, false, false] rfl rfl (by kernel_rfl) (by decide) (fun K hK => ?_)
                          refine goes_ Try.func24 (by kernel_rfl) rfl #[.int .i64 a2] (by rfl) rfl rfl (by (try simp only [List.map_toArray, List.map_cons, List.map_nil]); first | done | rfl | (simp only [List.length_drop, List.length_take]; rfl)) ?_
                          with_reducible refine (wrap_whole.calls a2 t383 t384 _ A30.out).mono ?_
                          rintro e w36 ⟨rfl, hb⟩
                          refine ⟨_, rfl, ?_⟩
                          have n0_ := Aside0.mk (Kd.R_below (by (with_reducible repeat (first | apply Kd.R_alloc | apply Kd.R_drewN | apply Kd.R_drew)); exact HO_7.out) hb)
                          have n1_ := Aside0.mk (blk_below (g := gb375) (o := .cells #[.int .i64 ((rd_T41 l0 x12_1).f0), .int .i64 ((rd_T41 l0 x12_1).f1), .int .i64 ((rd_T41 l0 x12_1).f2), .int .i64 x376003_21, .int .i64 x376004_21, .int .i64 ((rd_T41 l0 x12_1).f4.f0), .int .i64 ((rd_T41 l0 x12_1).f4.f1), .bool ((rd_T41 l0 x12_1).f5)] 41 (0, 0)) (by (with_reducible repeat (first | refine blk_drewN ?_ _ | refine blk_drew ?_ | refine blk_alloc ?_ _)); exact BK375.out) hb)
                          have n2_ := Aside0.mk (below_step (by repeat (first | (with_reducible first | exact HB.out | apply below_alloc | apply pw_below_drewN | apply below_drew1 | refine below_set ?_ GE375.out) | exact HB.out)) hb)
                          clear HO_7
                          clear BK375
                          clear HB
                          have HO_7 := n0_
                          have BK375 := n1_
                          have HB := n2_
                          clear n0_ n1_ n2_
                          (try clear hb)
                          (try clear hb2)
                          (try clear hk)
                          (try clear hi)
                          refine hK.out _ _ ⟨(blk_cell BK375.out 0).trans rfl, (blk_cell BK375.out 1).trans rfl, (blk_cell BK375.out 2).trans rfl, (blk_cell BK375.out 3).trans rfl, (blk_cell BK375.out 4).trans rfl, (blk_cell BK375.out 5).trans rfl, (blk_cell BK375.out 6).trans rfl, (blk_cell BK375.out 7).trans rfl⟩ (fun hHeld => ?_)
                          clear hK K
                          refine norm_ (a' := ?_) ?_ ?_
                          rotate_left
                          · show Act.put _ (some 38) _ = _
                            simp only [Act.put, List.setIfInBounds_toArray, List.set_cons_zero, List.set_cons_succ, i64_w, i32_w]
                            rfl
                          refine one_ (i := 4) (N := some 39) #[true, true, true, true, true, false, false] rfl rfl (by kernel_rfl) (by decide) (fun K hK => ?_)
                          refine goes_ Try.func25 (by kernel_rfl) rfl #[.agg #[.int .i64 ((rd_T41 l0 x12_1).f4.f0), .int .i64 ((rd_T41 l0 x12_1).f4.f1)], .agg #[.int .i64 t383, .int .i64 t384]] (by rfl) rfl rfl (by (try simp only [List.map_toArray, List.map_cons, List.map_nil]); first | done | rfl | (simp only [List.length_drop, List.length_take]; rfl)) ?_
                          with_reducible refine (wrap_less.calls kj21 ((rd_T41 l0 x12_1).f4.f0) ((rd_T41 l0 x12_1).f4.f1) t383 t384 t385 t386 _ A31.out).mono ?_
                          rintro e w37 ⟨rfl, hb⟩
                          refine ⟨_, rfl, ?_⟩
                          have n0_ := Aside0.mk (Kd.R_below (by (with_reducible repeat (first | apply Kd.R_alloc | apply Kd.R_drewN | apply Kd.R_drew)); exact HO_7.out) hb)
                          have n1_ := Aside0.mk (blk_below (g := gb375) (o := .cells #[.int .i64 ((rd_T41 l0 x12_1).f0), .int .i64 ((rd_T41 l0 x12_1).f1), .int .i64 ((rd_T41 l0 x12_1).f2), .int .i64 x376003_21, .int .i64 x376004_21, .int .i64 ((rd_T41 l0 x12_1).f4.f0), .int .i64 ((rd_T41 l0 x12_1).f4.f1), .bool ((rd_T41 l0 x12_1).f5)] 41 (0, 0)) (by (with_reducible repeat (first | refine blk_drewN ?_ _ | refine blk_drew ?_ | refine blk_alloc ?_ _)); exact BK375.out) hb)
                          have n2_ := Aside0.mk (below_step (by repeat (first | (with_reducible first | exact HB.out | apply below_alloc | apply pw_below_drewN | apply below_drew1 | refine below_set ?_ GE375.out) | exact HB.out)) hb)
                          clear HO_7
                          clear BK375
                          clear HB
                          have HO_7 := n0_
                          have BK375 := n1_
                          have HB := n2_
                          clear n0_ n1_ n2_
                          (try clear hb)
                          (try clear hb2)
                          (try clear hk)
                          (try clear hi)
                          refine hK.out _ _ ⟨(blk_cell BK375.out 0).trans rfl, (blk_cell BK375.out 1).trans rfl, (blk_cell BK375.out 2).trans rfl, (blk_cell BK375.out 3).trans rfl, (blk_cell BK375.out 4).trans rfl, (blk_cell BK375.out 5).trans rfl, (blk_cell BK375.out 6).trans rfl, (blk_cell BK375.out 7).trans rfl⟩ (fun hHeld => ?_)
                          clear hK K
                          refine norm_ (a' := ?_) ?_ ?_
                          rotate_left
                          · show Act.put _ (some 39) _ = _
                            simp only [Act.put, List.setIfInBounds_toArray, List.set_cons_zero, List.set_cons_succ, i64_w, i32_w]
                            rfl
                          refine pure_ (i := 5) (N := some 40) (v := ?_) (a' := ?_) #[true, true, true, true, true, true, false] rfl rfl (by kernel_rfl) (fun _ _ _ h => h) (Or.inl ⟨by rfl, ?_⟩) ?_ ?_
                          rotate_left
                          · intro w'
                            go_simp
                            with_reducible rfl
                          rotate_left
                          · simp only [Act.put, List.setIfInBounds_toArray, List.set_cons_zero, List.set_cons_succ, i64_w, i32_w]
                            rfl
                          refine last_ (i := 6) (N := none) #[true, true, true, true, true, true, true] rfl rfl (by kernel_rfl) (by decide) (fun K hK => ?_)
                          have hs38 : w37.cell? ⟨gb375, 5, none⟩ = some (.int .i64 ((rd_T41 l0 x12_1).f4.f0)) := (blk_cell BK375.out 5).trans rfl
                          have hfs38 := blk_frozen BK375.out 5
                          have hs39 : w37.cell? ⟨gb375, 6, none⟩ = some (.int .i64 ((rd_T41 l0 x12_1).f4.f1)) := (blk_cell BK375.out 6).trans rfl
                          have hfs39 := blk_frozen BK375.out 6
                          refine skip_ (w1 := ?_) (by rfl) rfl ?_ ?_
                          rotate_left
                          · go_simp
                            rfl
                          refine hK.out _ _ ?_
                          clear hK K
                          refine done_ (by kernel_rfl) ?_
                          have hcz40_0 : w37.cell? ⟨gb375, 0, none⟩ = some (.int .i64 ((rd_T41 l0 x12_1).f0)) := (blk_cell BK375.out 0).trans rfl
                          have hcz40_1 : w37.cell? ⟨gb375, 1, none⟩ = some (.int .i64 ((rd_T41 l0 x12_1).f1)) := (blk_cell BK375.out 1).trans rfl
                          have hcz40_2 : w37.cell? ⟨gb375, 2, none⟩ = some (.int .i64 ((rd_T41 l0 x12_1).f2)) := (blk_cell BK375.out 2).trans rfl
                          have hcz40_3 : w37.cell? ⟨gb375, 3, none⟩ = some (.int .i64 x376003_21) := (blk_cell BK375.out 3).trans rfl
                          have hcz40_4 : w37.cell? ⟨gb375, 4, none⟩ = some (.int .i64 x376004_21) := (blk_cell BK375.out 4).trans rfl
                          have hcz40_5 : w37.cell? ⟨gb375, 5, none⟩ = some (.int .i64 ((rd_T41 l0 x12_1).f4.f0)) := (blk_cell BK375.out 5).trans rfl
                          have hcz40_6 : w37.cell? ⟨gb375, 6, none⟩ = some (.int .i64 ((rd_T41 l0 x12_1).f4.f1)) := (blk_cell BK375.out 6).trans rfl
                          have hcz40_7 : w37.cell? ⟨gb375, 7, none⟩ = some (.bool ((rd_T41 l0 x12_1).f5)) := (blk_cell BK375.out 7).trans rfl
                          have hfz40_0 := blk_frozen BK375.out 0
                          have hfz40_1 := blk_frozen BK375.out 1
                          have hfz40_2 := blk_frozen BK375.out 2
                          have hfz40_3 := blk_frozen BK375.out 3
                          have hfz40_4 := blk_frozen BK375.out 4
                          have hfz40_5 := blk_frozen BK375.out 5
                          have hfz40_6 := blk_frozen BK375.out 6
                          have hfz40_7 := blk_frozen BK375.out 7
                          try go_wp2_with (first | ((with_reducible refine gate_callee (f := 28) rfl ?_); refine goesL_ (some 45) rfl rfl Try.func28 (by kernel_rfl) rfl #[.agg #[.int .i64 x376003_21, .int .i64 x376004_21], .agg #[.int .i64 t385, .int .i64 t386]] rfl (by (try simp only [List.map_toArray, List.map_cons, List.map_nil]); first | done | rfl | (simp only [List.length_drop, List.length_take]; rfl)) ?_; (with_reducible refine (ratio_Cmp.calls kj21 x376003_21 x376004_21 t385 t386 t387 _ A32.out).mono ?_); rintro e w41 ⟨rfl, hb⟩; refine ⟨_, rfl, ?_⟩; have n0_ := Aside0.mk (Kd.R_below (by (with_reducible repeat (first | apply Kd.R_alloc | apply Kd.R_drewN | apply Kd.R_drew)); exact (Kd.R_mono (Kd.R_far (p := ⟨gb375, 6, none⟩) (Kd.R_far (p := ⟨gb375, 5, none⟩) (Kd.R_mono HO_7.out (fun k_ hk => (⟨hk, hk⟩ : _ ∧ k_ ≠ gb375))) (fun _ hk => hk.2) (.int .i64 t385)) (fun _ hk => hk.2) (.int .i64 t386)) (fun _ h_ => h_.1))) hb); have n1_ := Aside0.mk (blk_below (g := gb375) (o := .cells #[.int .i64 ((rd_T41 l0 x12_1).f0), .int .i64 ((rd_T41 l0 x12_1).f1), .int .i64 ((rd_T41 l0 x12_1).f2), .int .i64 x376003_21, .int .i64 x376004_21, .int .i64 t385, .int .i64 t386, .bool ((rd_T41 l0 x12_1).f5)] 41 (0, 0)) (by (with_reducible repeat (first | refine blk_drewN ?_ _ | refine blk_drew ?_ | refine blk_alloc ?_ _)); refine blk_put (cs := #[.int .i64 ((rd_T41 l0 x12_1).f0), .int .i64 ((rd_T41 l0 x12_1).f1), .int .i64 ((rd_T41 l0 x12_1).f2), .int .i64 x376003_21, .int .i64 x376004_21, .int .i64 t385, .int .i64 ((rd_T41 l0 x12_1).f4.f1), .bool ((rd_T41 l0 x12_1).f5)]) ?_ 6 _ rfl; (with_reducible repeat (first | refine blk_drewN ?_ _ | refine blk_drew ?_ | refine blk_alloc ?_ _)); refine blk_put (cs := #[.int .i64 ((rd_T41 l0 x12_1).f0), .int .i64 ((rd_T41 l0 x12_1).f1), .int .i64 ((rd_T41 l0 x12_1).f2), .int .i64 x376003_21, .int .i64 x376004_21, .int .i64 ((rd_T41 l0 x12_1).f4.f0), .int .i64 ((rd_T41 l0 x12_1).f4.f1), .bool ((rd_T41 l0 x12_1).f5)]) ?_ 5 _ rfl; (with_reducible repeat (first | refine blk_drewN ?_ _ | refine blk_drew ?_ | refine blk_alloc ?_ _)); exact BK375.out) hb); have n2_ := Aside0.mk (below_step (by repeat (first | (with_reducible first | exact HB.out | apply below_alloc | apply pw_below_drewN | apply below_drew1 | refine below_set ?_ GE375.out) | exact HB.out)) hb); clear HO_7; clear BK375; clear HB; have HO_7 := n0_; have BK375 := n1_; have HB := n2_; clear n0_ n1_ n2_; (try clear hb); (try clear hb2); (try clear hk); (try clear hi); have hcz42_0 : w41.cell? ⟨gb375, 0, none⟩ = some (.int .i64 ((rd_T41 l0 x12_1).f0)) := (blk_cell BK375.out 0).trans rfl; have hcz42_1 : w41.cell? ⟨gb375, 1, none⟩ = some (.int .i64 ((rd_T41 l0 x12_1).f1)) := (blk_cell BK375.out 1).trans rfl; have hcz42_2 : w41.cell? ⟨gb375, 2, none⟩ = some (.int .i64 ((rd_T41 l0 x12_1).f2)) := (blk_cell BK375.out 2).trans rfl; have hcz42_3 : w41.cell? ⟨gb375, 3, none⟩ = some (.int .i64 x376003_21) := (blk_cell BK375.out 3).trans rfl; have hcz42_4 : w41.cell? ⟨gb375, 4, none⟩ = some (.int .i64 x376004_21) := (blk_cell BK375.out 4).trans rfl; have hcz42_5 : w41.cell? ⟨gb375, 5, none⟩ = some (.int .i64 t385) := (blk_cell BK375.out 5).trans rfl; have hcz42_6 : w41.cell? ⟨gb375, 6, none⟩ = some (.int .i64 t386) := (blk_cell BK375.out 6).trans rfl; have hcz42_7 : w41.cell? ⟨gb375, 7, none⟩ = some (.bool ((rd_T41 l0 x12_1).f5)) := (blk_cell BK375.out 7).trans rfl; have hfz42_0 := blk_frozen BK375.out 0; have hfz42_1 := blk_frozen BK375.out 1; have hfz42_2 := blk_frozen BK375.out 2; have hfz42_3 := blk_frozen BK375.out 3; have hfz42_4 := blk_frozen BK375.out 4; have hfz42_5 := blk_frozen BK375.out 5; have hfz42_6 := blk_frozen BK375.out 6; have hfz42_7 := blk_frozen BK375.out 7) | ((with_reducible refine gate_builtin (b := .append) (xs := #[.tmp 47, .tmp 49]) rfl ?_); at_builtin; refine Kd.R_append k41 (w0 := w) w.heap.size rfl (.tmp 47) (.tmp 49) 26 41 (.agg #[(.int .i64 0), (.int .i64 0), (.int .i64 0), (.int .i64 0), (.int .i64 0), (.int .i64 0), (.int .i64 0), (.bool false)]) 64 rfl Try.underlying26 info41 rfl (by decide) (by omega) u7 x7_1 (⟨((rd_T41 l0 x12_1).f0), ((rd_T41 l0 x12_1).f1), ((rd_T41 l0 x12_1).f2), (⟨x376003_21, x376004_21⟩ : S37), (⟨t385, t386⟩ : S37), ((rd_T41 l0 x12_1).f5)⟩ : S41) [.int .i64 ((rd_T41 l0 x12_1).f0), .int .i64 ((rd_T41 l0 x12_1).f1), .int .i64 ((rd_T41 l0 x12_1).f2), .int .i64 x376003_21, .int .i64 x376004_21, .int .i64 t385, .int .i64 t386, .bool ((rd_T41 l0 x12_1).f5)] (fun k_ => k_ ≠ gb375) (fun _ => False) rfl rfl ?aP (fun _ hk => hk.elim) ?aF ?aO ?aB ?aS ?aL ?_; (case aP => exact k41_mkM _ _ _ (⟨((rd_T41 l0 x12_1).f0), ((rd_T41 l0 x12_1).f1), ((rd_T41 l0 x12_1).f2), (⟨x376003_21, x376004_21⟩ : S37), (⟨t385, t386⟩ : S37), ((rd_T41 l0 x12_1).f5)⟩ : S41)); (case aB => exact (by repeat (first | (with_reducible first | exact HB.out | apply below_alloc | apply pw_below_drewN | apply below_drew1 | refine below_set ?_ GE375.out) | exact HB.out))); (case aF => exact (fun k_ hk => Kd.freshB (g := gb375) (o := .cells #[.int .i64 ((rd_T41 l0 x12_1).f0), .int .i64 ((rd_T41 l0 x12_1).f1), .int .i64 ((rd_T41 l0 x12_1).f2), .int .i64 x376003_21, .int .i64 x376004_21, .int .i64 t385, .int .i64 t386, .bool ((rd_T41 l0 x12_1).f5)] 41 (0, 0)) (by (with_reducible repeat (first | refine blk_drewN ?_ _ | refine blk_drew ?_ | refine blk_alloc ?_ _)); exact BK375.out) k_ hk)); (case aO => exact (by (with_reducible repeat (first | apply Kd.R_alloc | apply Kd.R_drewN | apply Kd.R_drew)); exact HO_7.out)); (case aS => exact (below_size (by repeat (first | (with_reducible first | exact HB.out | apply below_alloc | apply pw_below_drewN | apply below_drew1 | refine below_set ?_ GE375.out) | exact HB.out)))); (case aL => have := LMc34.out; omega); intro v389 w43 ho hb hg hat; rw [← Ny388.out] at ho; have n0_ := Aside0.mk (blk_grown (g := gb375) (o := .cells #[.int .i64 ((rd_T41 l0 x12_1).f0), .int .i64 ((rd_T41 l0 x12_1).f1), .int .i64 ((rd_T41 l0 x12_1).f2), .int .i64 x376003_21, .int .i64 x376004_21, .int .i64 t385, .int .i64 t386, .bool ((rd_T41 l0 x12_1).f5)] 41 (0, 0)) (by (with_reducible repeat (first | refine blk_drewN ?_ _ | refine blk_drew ?_ | refine blk_alloc ?_ _)); exact BK375.out) hg (Kd.R_away HO_7.out (fun _ hk => hk))); have n1_ := Aside0.mk (hb); have n2_ := Aside0.mk (ho); clear BK375; clear HB; clear HO_7; have BK375 := n0_; have HB := n1_; have HO390 := n2_; clear n0_ n1_ n2_; clear ho hb hg hat))
                          go_roundg kj21
                          case measure => have := HK1.out; have := HJ6.out; have := HJ21.out; omega
                          case rel => exact ⟨(y388), (wrap64 (x12_1 + 1)), (by first | rfl | (simp; done) | (simp [*]; done)), H', ⟨by have := HK1.out; have := HJ6.out; have := HJ21.out; omega⟩, ⟨by (with_reducible repeat (first | apply Kd.R_alloc | apply Kd.R_drewN | apply Kd.R_drew)); exact Kd.R_mono HO390.out (fun _ hk => trivial)⟩, ⟨by repeat (first | (with_reducible first | exact HB.out | apply below_alloc | apply pw_below_drewN | apply below_drew1 | refine below_set ?_ GE375.out) | exact HB.out)⟩⟩
                        · rw [if_neg c34] at H
                          exact absurd H (by simp)
                      · rw [if_neg c33] at H
                        have c33b0 : decide (t387 < 0) = false := decide_eq_false c33
                        clear c33
                        have H' := Aside0.mk H
                        clear H
                        try go_wp2
                        have n0_ := Aside0.mk (Kd.R_drew HO_7.out)
                        have n1_ := Aside0.mk (blk_drew BK375.out)
                        have n2_ := Aside0.mk (below_drew1 HB.out)
                        clear HO_7
                        clear BK375
                        clear HB
                        have HO_7 := n0_
                        have BK375 := n1_
                        have HB := n2_
                        clear n0_ n1_ n2_
                        refine start_ (n := 7) (S := fun w' => w'.cell? ⟨gb375, 0, none⟩ = some (.int .i64 ((rd_T41 l0 x12_1).f0)) ∧ w'.cell? ⟨gb375, 1, none⟩ = some (.int .i64 ((rd_T41 l0 x12_1).f1)) ∧ w'.cell? ⟨gb375, 2, none⟩ = some (.int .i64 ((rd_T41 l0 x12_1).f2)) ∧ w'.cell? ⟨gb375, 3, none⟩ = some (.int .i64 x376003_21) ∧ w'.cell? ⟨gb375, 4, none⟩ = some (.int .i64 x376004_21) ∧ w'.cell? ⟨gb375, 5, none⟩ = some (.int .i64 ((rd_T41 l0 x12_1).f4.f0)) ∧ w'.cell? ⟨gb375, 6, none⟩ = some (.int .i64 ((rd_T41 l0 x12_1).f4.f1)) ∧ w'.cell? ⟨gb375, 7, none⟩ = some (.bool ((rd_T41 l0 x12_1).f5))) (ds := [6]) #[false, false, false, false, false, false, false] (by kernel_rfl) rfl rfl ⟨(blk_cell BK375.out 0).trans rfl, (blk_cell BK375.out 1).trans rfl, (blk_cell BK375.out 2).trans rfl, (blk_cell BK375.out 3).trans rfl, (blk_cell BK375.out 4).trans rfl, (blk_cell BK375.out 5).trans rfl, (blk_cell BK375.out 6).trans rfl, (blk_cell BK375.out 7).trans rfl⟩ (fun hHeld => ?_)
                        generalize wc.drew = w44 at HO_7 BK375 HB hHeld ⊢
                        refine pure_ (i := 0) (N := some 35) (v := ?_) (a' := ?_) #[true, false, false, false, false, false, false] rfl rfl (by kernel_rfl) (fun _ _ _ h => h) (Or.inl ⟨by rfl, ?_⟩) ?_ ?_
                        rotate_left
                        · intro w'
                          go_simp
                          with_reducible rfl
                        rotate_left
                        · simp only [Act.put, List.setIfInBounds_toArray, List.set_cons_zero, List.set_cons_succ, i64_w, i32_w]
                          rfl
                        refine pure_ (i := 2) (N := some 37) (v := ?_) (a' := ?_) #[true, false, true, false, false, false, false] rfl rfl (by kernel_rfl) (fun _ _ _ h => h) (Or.inl ⟨by rfl, ?_⟩) ?_ ?_
                        rotate_left
                        · intro w'
                          go_simp
                          with_reducible rfl
                        rotate_left
                        · simp only [Act.put, List.setIfInBounds_toArray, List.set_cons_zero, List.set_cons_succ, i64_w, i32_w]
                          rfl
                        refine take_ (i := 1) (N := some 36) (v := ?_) (a' := ?_) #[true, true, true, false, false, false, false] rfl rfl (by kernel_rfl) (fun _ _ _ h => h) (Or.inl ⟨by rfl, ?_⟩) hHeld ?_ ?_
                        rotate_left
                        · rintro w' ⟨s0, s1, s2, s3, s4, s5, s6, s7⟩
                          go_simp
                          with_reducible rfl
                        rotate_left
                        · simp only [Act.put, List.setIfInBounds_toArray, List.set_cons_zero, List.set_cons_succ, i64_w, i32_w]
                          rfl
                        refine one_ (i := 3) (N := some 38) #[true, true, true, true, false, false, false] rfl rfl (by kernel_rfl) (by decide) (fun K hK => ?_)
                        refine goes_ Try.func24 (by kernel_rfl) rfl #[.int .i64 a2] (by rfl) rfl rfl (by (try simp only [List.map_toArray, List.map_cons, List.map_nil]); first | done | rfl | (simp only [List.length_drop, List.length_take]; rfl)) ?_
                        with_reducible refine (wrap_whole.calls a2 t383 t384 _ A30.out).mono ?_
                        rintro e w45 ⟨rfl, hb⟩
                        refine ⟨_, rfl, ?_⟩
                        have n0_ := Aside0.mk (Kd.R_below (by (with_reducible repeat (first | apply Kd.R_alloc | apply Kd.R_drewN | apply Kd.R_drew)); exact HO_7.out) hb)
                        have n1_ := Aside0.mk (blk_below (g := gb375) (o := .cells #[.int .i64 ((rd_T41 l0 x12_1).f0), .int .i64 ((rd_T41 l0 x12_1).f1), .int .i64 ((rd_T41 l0 x12_1).f2), .int .i64 x376003_21, .int .i64 x376004_21, .int .i64 ((rd_T41 l0 x12_1).f4.f0), .int .i64 ((rd_T41 l0 x12_1).f4.f1), .bool ((rd_T41 l0 x12_1).f5)] 41 (0, 0)) (by (with_reducible repeat (first | refine blk_drewN ?_ _ | refine blk_drew ?_ | refine blk_alloc ?_ _)); exact BK375.out) hb)
                        have n2_ := Aside0.mk (below_step (by repeat (first | (with_reducible first | exact HB.out | apply below_alloc | apply pw_below_drewN | apply below_drew1 | refine below_set ?_ GE375.out) | exact HB.out)) hb)
                        clear HO_7
                        clear BK375
                        clear HB
                        have HO_7 := n0_
                        have BK375 := n1_
                        have HB := n2_
                        clear n0_ n1_ n2_
                        (try clear hb)
                        (try clear hb2)
                        (try clear hk)
                        (try clear hi)
                        refine hK.out _ _ ⟨(blk_cell BK375.out 0).trans rfl, (blk_cell BK375.out 1).trans rfl, (blk_cell BK375.out 2).trans rfl, (blk_cell BK375.out 3).trans rfl, (blk_cell BK375.out 4).trans rfl, (blk_cell BK375.out 5).trans rfl, (blk_cell BK375.out 6).trans rfl, (blk_cell BK375.out 7).trans rfl⟩ (fun hHeld => ?_)
                        clear hK K
                        refine norm_ (a' := ?_) ?_ ?_
                        rotate_left
                        · show Act.put _ (some 38) _ = _
                          simp only [Act.put, List.setIfInBounds_toArray, List.set_cons_zero, List.set_cons_succ, i64_w, i32_w]
                          rfl
                        refine one_ (i := 4) (N := some 39) #[true, true, true, true, true, false, false] rfl rfl (by kernel_rfl) (by decide) (fun K hK => ?_)
                        refine goes_ Try.func25 (by kernel_rfl) rfl #[.agg #[.int .i64 ((rd_T41 l0 x12_1).f4.f0), .int .i64 ((rd_T41 l0 x12_1).f4.f1)], .agg #[.int .i64 t383, .int .i64 t384]] (by rfl) rfl rfl (by (try simp only [List.map_toArray, List.map_cons, List.map_nil]); first | done | rfl | (simp only [List.length_drop, List.length_take]; rfl)) ?_
                        with_reducible refine (wrap_less.calls kj21 ((rd_T41 l0 x12_1).f4.f0) ((rd_T41 l0 x12_1).f4.f1) t383 t384 t385 t386 _ A31.out).mono ?_
                        rintro e w46 ⟨rfl, hb⟩
                        refine ⟨_, rfl, ?_⟩
                        have n0_ := Aside0.mk (Kd.R_below (by (with_reducible repeat (first | apply Kd.R_alloc | apply Kd.R_drewN | apply Kd.R_drew)); exact HO_7.out) hb)
                        have n1_ := Aside0.mk (blk_below (g := gb375) (o := .cells #[.int .i64 ((rd_T41 l0 x12_1).f0), .int .i64 ((rd_T41 l0 x12_1).f1), .int .i64 ((rd_T41 l0 x12_1).f2), .int .i64 x376003_21, .int .i64 x376004_21, .int .i64 ((rd_T41 l0 x12_1).f4.f0), .int .i64 ((rd_T41 l0 x12_1).f4.f1), .bool ((rd_T41 l0 x12_1).f5)] 41 (0, 0)) (by (with_reducible repeat (first | refine blk_drewN ?_ _ | refine blk_drew ?_ | refine blk_alloc ?_ _)); exact BK375.out) hb)
                        have n2_ := Aside0.mk (below_step (by repeat (first | (with_reducible first | exact HB.out | apply below_alloc | apply pw_below_drewN | apply below_drew1 | refine below_set ?_ GE375.out) | exact HB.out)) hb)
                        clear HO_7
                        clear BK375
                        clear HB
                        have HO_7 := n0_
                        have BK375 := n1_
                        have HB := n2_
                        clear n0_ n1_ n2_
                        (try clear hb)
                        (try clear hb2)
                        (try clear hk)
                        (try clear hi)
                        refine hK.out _ _ ⟨(blk_cell BK375.out 0).trans rfl, (blk_cell BK375.out 1).trans rfl, (blk_cell BK375.out 2).trans rfl, (blk_cell BK375.out 3).trans rfl, (blk_cell BK375.out 4).trans rfl, (blk_cell BK375.out 5).trans rfl, (blk_cell BK375.out 6).trans rfl, (blk_cell BK375.out 7).trans rfl⟩ (fun hHeld => ?_)
                        clear hK K
                        refine norm_ (a' := ?_) ?_ ?_
                        rotate_left
                        · show Act.put _ (some 39) _ = _
                          simp only [Act.put, List.setIfInBounds_toArray, List.set_cons_zero, List.set_cons_succ, i64_w, i32_w]
                          rfl
                        refine pure_ (i := 5) (N := some 40) (v := ?_) (a' := ?_) #[true, true, true, true, true, true, false] rfl rfl (by kernel_rfl) (fun _ _ _ h => h) (Or.inl ⟨by rfl, ?_⟩) ?_ ?_
                        rotate_left
                        · intro w'
                          go_simp
                          with_reducible rfl
                        rotate_left
                        · simp only [Act.put, List.setIfInBounds_toArray, List.set_cons_zero, List.set_cons_succ, i64_w, i32_w]
                          rfl
                        refine last_ (i := 6) (N := none) #[true, true, true, true, true, true, true] rfl rfl (by kernel_rfl) (by decide) (fun K hK => ?_)
                        have hs47 : w46.cell? ⟨gb375, 5, none⟩ = some (.int .i64 ((rd_T41 l0 x12_1).f4.f0)) := (blk_cell BK375.out 5).trans rfl
                        have hfs47 := blk_frozen BK375.out 5
                        have hs48 : w46.cell? ⟨gb375, 6, none⟩ = some (.int .i64 ((rd_T41 l0 x12_1).f4.f1)) := (blk_cell BK375.out 6).trans rfl
                        have hfs48 := blk_frozen BK375.out 6
                        refine skip_ (w1 := ?_) (by rfl) rfl ?_ ?_
                        rotate_left
                        · go_simp
                          rfl
                        refine hK.out _ _ ?_
                        clear hK K
                        refine done_ (by kernel_rfl) ?_
                        have hcz49_0 : w46.cell? ⟨gb375, 0, none⟩ = some (.int .i64 ((rd_T41 l0 x12_1).f0)) := (blk_cell BK375.out 0).trans rfl
                        have hcz49_1 : w46.cell? ⟨gb375, 1, none⟩ = some (.int .i64 ((rd_T41 l0 x12_1).f1)) := (blk_cell BK375.out 1).trans rfl
                        have hcz49_2 : w46.cell? ⟨gb375, 2, none⟩ = some (.int .i64 ((rd_T41 l0 x12_1).f2)) := (blk_cell BK375.out 2).trans rfl
                        have hcz49_3 : w46.cell? ⟨gb375, 3, none⟩ = some (.int .i64 x376003_21) := (blk_cell BK375.out 3).trans rfl
                        have hcz49_4 : w46.cell? ⟨gb375, 4, none⟩ = some (.int .i64 x376004_21) := (blk_cell BK375.out 4).trans rfl
                        have hcz49_5 : w46.cell? ⟨gb375, 5, none⟩ = some (.int .i64 ((rd_T41 l0 x12_1).f4.f0)) := (blk_cell BK375.out 5).trans rfl
                        have hcz49_6 : w46.cell? ⟨gb375, 6, none⟩ = some (.int .i64 ((rd_T41 l0 x12_1).f4.f1)) := (blk_cell BK375.out 6).trans rfl
                        have hcz49_7 : w46.cell? ⟨gb375, 7, none⟩ = some (.bool ((rd_T41 l0 x12_1).f5)) := (blk_cell BK375.out 7).trans rfl
                        have hfz49_0 := blk_frozen BK375.out 0
                        have hfz49_1 := blk_frozen BK375.out 1
                        have hfz49_2 := blk_frozen BK375.out 2
                        have hfz49_3 := blk_frozen BK375.out 3
                        have hfz49_4 := blk_frozen BK375.out 4
                        have hfz49_5 := blk_frozen BK375.out 5
                        have hfz49_6 := blk_frozen BK375.out 6
                        have hfz49_7 := blk_frozen BK375.out 7
                        try go_wp2_with (first | ((with_reducible refine gate_callee (f := 28) rfl ?_); refine goesL_ (some 45) rfl rfl Try.func28 (by kernel_rfl) rfl #[.agg #[.int .i64 x376003_21, .int .i64 x376004_21], .agg #[.int .i64 t385, .int .i64 t386]] rfl (by (try simp only [List.map_toArray, List.map_cons, List.map_nil]); first | done | rfl | (simp only [List.length_drop, List.length_take]; rfl)) ?_; (with_reducible refine (ratio_Cmp.calls kj21 x376003_21 x376004_21 t385 t386 t387 _ A32.out).mono ?_); rintro e w50 ⟨rfl, hb⟩; refine ⟨_, rfl, ?_⟩; have n0_ := Aside0.mk (Kd.R_below (by (with_reducible repeat (first | apply Kd.R_alloc | apply Kd.R_drewN | apply Kd.R_drew)); exact (Kd.R_mono (Kd.R_far (p := ⟨gb375, 6, none⟩) (Kd.R_far (p := ⟨gb375, 5, none⟩) (Kd.R_mono HO_7.out (fun k_ hk => (⟨hk, hk⟩ : _ ∧ k_ ≠ gb375))) (fun _ hk => hk.2) (.int .i64 t385)) (fun _ hk => hk.2) (.int .i64 t386)) (fun _ h_ => h_.1))) hb); have n1_ := Aside0.mk (blk_below (g := gb375) (o := .cells #[.int .i64 ((rd_T41 l0 x12_1).f0), .int .i64 ((rd_T41 l0 x12_1).f1), .int .i64 ((rd_T41 l0 x12_1).f2), .int .i64 x376003_21, .int .i64 x376004_21, .int .i64 t385, .int .i64 t386, .bool ((rd_T41 l0 x12_1).f5)] 41 (0, 0)) (by (with_reducible repeat (first | refine blk_drewN ?_ _ | refine blk_drew ?_ | refine blk_alloc ?_ _)); refine blk_put (cs := #[.int .i64 ((rd_T41 l0 x12_1).f0), .int .i64 ((rd_T41 l0 x12_1).f1), .int .i64 ((rd_T41 l0 x12_1).f2), .int .i64 x376003_21, .int .i64 x376004_21, .int .i64 t385, .int .i64 ((rd_T41 l0 x12_1).f4.f1), .bool ((rd_T41 l0 x12_1).f5)]) ?_ 6 _ rfl; (with_reducible repeat (first | refine blk_drewN ?_ _ | refine blk_drew ?_ | refine blk_alloc ?_ _)); refine blk_put (cs := #[.int .i64 ((rd_T41 l0 x12_1).f0), .int .i64 ((rd_T41 l0 x12_1).f1), .int .i64 ((rd_T41 l0 x12_1).f2), .int .i64 x376003_21, .int .i64 x376004_21, .int .i64 ((rd_T41 l0 x12_1).f4.f0), .int .i64 ((rd_T41 l0 x12_1).f4.f1), .bool ((rd_T41 l0 x12_1).f5)]) ?_ 5 _ rfl; (with_reducible repeat (first | refine blk_drewN ?_ _ | refine blk_drew ?_ | refine blk_alloc ?_ _)); exact BK375.out) hb); have n2_ := Aside0.mk (below_step (by repeat (first | (with_reducible first | exact HB.out | apply below_alloc | apply pw_below_drewN | apply below_drew1 | refine below_set ?_ GE375.out) | exact HB.out)) hb); clear HO_7; clear BK375; clear HB; have HO_7 := n0_; have BK375 := n1_; have HB := n2_; clear n0_ n1_ n2_; (try clear hb); (try clear hb2); (try clear hk); (try clear hi)))
                        go_roundg kj21
                        case measure => have := HK1.out; have := HJ6.out; have := HJ21.out; omega
                        case rel => exact ⟨(x7_1), (wrap64 (x12_1 + 1)), (by first | rfl | (simp; done) | (simp [*]; done)), H', ⟨by have := HK1.out; have := HJ6.out; have := HJ21.out; omega⟩, ⟨by (with_reducible repeat (first | apply Kd.R_alloc | apply Kd.R_drewN | apply Kd.R_drew)); exact Kd.R_mono HO_7.out (fun _ hk => trivial)⟩, ⟨by repeat (first | (with_reducible first | exact HB.out | apply below_alloc | apply pw_below_drewN | apply below_drew1 | refine below_set ?_ GE375.out) | exact HB.out)⟩⟩
          · rw [if_neg c6] at H
            exact absurd H (by simp)
        · rw [if_neg c5] at H
          exact absurd H (by simp)
      · rw [if_neg c4] at H
        have c4b0 : decide (x12_1 < (l0.length : Int)) = false := decide_eq_false c4
        clear c4
        obtain rfl := Option.some.inj H
        go_wp2
        go_ret
        exact ⟨_, by first | rfl | (simp [errW_none, errW_some] <;> rfl) | (simp [*, errW_none, errW_some] <;> rfl), by (with_reducible repeat (first | apply Kd.R_alloc | apply Kd.R_drewN | apply Kd.R_drew)); exact HO_7.out, by repeat (first | (with_reducible first | exact HB.out | apply below_alloc | apply pw_below_drewN | apply below_drew1) | exact HB.out)⟩

end Go.Proofs.Ytkgafogkeaaniaa.PW
