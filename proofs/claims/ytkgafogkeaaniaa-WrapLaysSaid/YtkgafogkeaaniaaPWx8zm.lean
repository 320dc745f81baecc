/- Printed by a program of mine: a changed copy of the kit's printer. No condition. -/
import Derived.Test.YtkgafogkeaaniaaPWx0zm
import Derived.Test.YtkgafogkeaaniaaPWx1zm
import Derived.Test.YtkgafogkeaaniaaPWx5zm
import Derived.Test.YtkgafogkeaaniaaPWx7zm
namespace Go.Proofs.Ytkgafogkeaaniaa.PW
open Go.RowKit Go.Proofs.YtkgafogkeaaniaaW.PrintWords Go.Proofs.YtkgafogkeaaniaaW.PrintLast Go.Proofs.YtkgafogkeaaniaaW.PrintMore
attribute [local go_sem] max2_int min2_int max_two min_two max_three min_three max_four min_four   -- for this text's walks alone
set_option linter.unusedVariables false
set_option linter.unusedSimpArgs false

attribute [local go_sem high] eqA41
/-! ### evenhandedref1_Cross: function 31 -/
def evenhandedref1_Cross.j0 : Nat → Int → Bool → Int → Int → Int → Int → Int → Int → Option (Int)
  | 0, _, _, _, _, _, _, _, _ => none
  | k + 1, x11, x28, x314000, x314001, x314002, x315000, x315001, x315002 => if x28 = true then (some (wrap64 ((-1) * x314000))) else (if x314001 = x315001 then (if x314002 = x315002 then (some (wrap64 (x11 * x314000))) else (some (wrap64 (1 * x314000)))) else (some (wrap64 (1 * x314000))))
def evenhandedref1_Cross.f (k : Nat) (a0 : Int) (a1 : Int) (a2 : Int) (a3 : Int) : Option (Int) := (evenhandedref1_product.f k a0 a1).bind fun bt307 => ((evenhandedref1_product.f k a2 a3).bind fun bt310 => (if bt307.1 = bt310.1 then (if bt307.2.1 < bt310.2.1 then (evenhandedref1_Cross.j0 k 0 true bt307.1 bt307.2.1 bt307.2.2 bt310.1 bt310.2.1 bt310.2.2) else (if bt307.2.1 = bt310.2.1 then (evenhandedref1_Cross.j0 k 0 (decide (bt307.2.2 < bt310.2.2)) bt307.1 bt307.2.1 bt307.2.2 bt310.1 bt310.2.1 bt310.2.2) else (evenhandedref1_Cross.j0 k 0 false bt307.1 bt307.2.1 bt307.2.2 bt310.1 bt310.2.1 bt310.2.2))) else (if bt307.1 < bt310.1 then (some (-1)) else (some 1))))
set_option maxHeartbeats 8000000 in
set_option maxRecDepth 100000 in
theorem evenhandedref1_Cross.calls (k : Nat) (a0 : Int) (a1 : Int) (a2 : Int) (a3 : Int) (r : Int) (w : World) (h : evenhandedref1_Cross.f k a0 a1 a2 a3 = some r) :
    Calls Try.prog 31 #[.int .i64 a0, .int .i64 a1, .int .i64 a2, .int .i64 a3] w fun e w' => e = .returned (.int .i64 r) ∧ Below w.heap.size w w' := by
  have hu65 := Try.underlying65
  have HB := Aside0.mk (Below.refl w.heap.size w)
  have H : ((evenhandedref1_product.f k a0 a1).bind fun bt307 => ((evenhandedref1_product.f k a2 a3).bind fun bt310 => (if bt307.1 = bt310.1 then (if bt307.2.1 < bt310.2.1 then (evenhandedref1_Cross.j0 k 0 true bt307.1 bt307.2.1 bt307.2.2 bt310.1 bt310.2.1 bt310.2.2) else (if bt307.2.1 = bt310.2.1 then (evenhandedref1_Cross.j0 k 0 (decide (bt307.2.2 < bt310.2.2)) bt307.1 bt307.2.1 bt307.2.2 bt310.1 bt310.2.1 bt310.2.2) else (evenhandedref1_Cross.j0 k 0 false bt307.1 bt307.2.1 bt307.2.2 bt310.1 bt310.2.1 bt310.2.2))) else (if bt307.1 < bt310.1 then (some (-1)) else (some 1))))) = some r := h
  clear h
  replace H := Option.bind_eq_some_iff.mp H
  obtain ⟨⟨t307, t308, t309⟩, A50, H⟩ := H
  replace H : ((evenhandedref1_product.f k a2 a3).bind fun bt310 => (if t307 = bt310.1 then (if t308 < bt310.2.1 then (evenhandedref1_Cross.j0 k 0 true t307 t308 t309 bt310.1 bt310.2.1 bt310.2.2) else (if t308 = bt310.2.1 then (evenhandedref1_Cross.j0 k 0 (decide (t309 < bt310.2.2)) t307 t308 t309 bt310.1 bt310.2.1 bt310.2.2) else (evenhandedref1_Cross.j0 k 0 false t307 t308 t309 bt310.1 bt310.2.1 bt310.2.2))) else (if t307 < bt310.1 then (some (-1)) else (some 1)))) = some r := H
  have A5 := Aside0.mk A50
  clear A50
  replace H := Option.bind_eq_some_iff.mp H
  obtain ⟨⟨t310, t311, t312⟩, A60, H⟩ := H
  replace H : (if t307 = t310 then (if t308 < t311 then (evenhandedref1_Cross.j0 k 0 true t307 t308 t309 t310 t311 t312) else (if t308 = t311 then (evenhandedref1_Cross.j0 k 0 (decide (t309 < t312)) t307 t308 t309 t310 t311 t312) else (evenhandedref1_Cross.j0 k 0 false t307 t308 t309 t310 t311 t312))) else (if t307 < t310 then (some (-1)) else (some 1))) = some r := H
  have A6 := Aside0.mk A60
  clear A60
  refine Or.elim (Classical.em (t307 = t310)) ?fp0 ?fn0
  case' fp0 =>
    intro c7
    rw [if_pos c7] at H
    have c7b0 : (t307 == t310) = true := beq_iff_eq.mpr c7
    have c7b1 : (t307 != t310) = false := bne_eq_false_iff_eq.mpr c7
    clear c7
    have HC8 := Aside0.mk H
    clear H
  case' fn0 =>
    intro c7
    rw [if_neg c7] at H
    have c7b0 : (t307 == t310) = false := beq_eq_false_iff_ne.mpr c7
    have c7b1 : (t307 != t310) = true := bne_iff_ne.mpr c7
    refine Or.elim (Classical.em (t307 < t310)) ?fp1 ?fn1
    case' fp1 =>
      intro c41
      rw [if_pos c41] at H
      have c41b0 : decide (t307 < t310) = true := decide_eq_true c41
      clear c41
      obtain rfl := Option.some.inj H
    case' fn1 =>
      intro c41
      rw [if_neg c41] at H
      have c41b0 : decide (t307 < t310) = false := decide_eq_false c41
      clear c41
      obtain rfl := Option.some.inj H
  case' fp0 | fp1 | fn1 =>
    go_enter Try.func31, Try.ntmps31
    go_upto_region 7 with (first | ((with_reducible refine gate_callee (f := 39) rfl ?_); refine goesL_ (some 14) rfl rfl Try.func39 (by kernel_rfl) rfl #[.int .i64 a0, .int .i64 a1] rfl (by (try simp only [List.map_toArray, List.map_cons, List.map_nil]); first | done | rfl | (simp only [List.length_drop, List.length_take]; rfl)) ?_; (with_reducible refine (evenhandedref1_product.calls _ _ _ _ _ _ _ A5.out).mono ?_); rintro e w9 ⟨rfl, hb⟩; refine ⟨_, rfl, ?_⟩; have n0_ := Aside0.mk (below_step (by repeat (first | (with_reducible first | exact HB.out | apply below_alloc | apply pw_below_drewN | apply below_drew1) | exact HB.out)) hb); clear HB; have HB := n0_; clear n0_; (try clear hb); (try clear hb2); (try clear hk); (try clear hi)) | ((with_reducible refine gate_callee (f := 39) rfl ?_); refine goesL_ (some 17) rfl rfl Try.func39 (by kernel_rfl) rfl #[.int .i64 a2, .int .i64 a3] rfl (by (try simp only [List.map_toArray, List.map_cons, List.map_nil]); first | done | rfl | (simp only [List.length_drop, List.length_take]; rfl)) ?_; (with_reducible refine (evenhandedref1_product.calls _ _ _ _ _ _ _ A6.out).mono ?_); rintro e w10 ⟨rfl, hb⟩; refine ⟨_, rfl, ?_⟩; have n0_ := Aside0.mk (below_step (by repeat (first | (with_reducible first | exact HB.out | apply below_alloc | apply pw_below_drewN | apply below_drew1) | exact HB.out)) hb); clear HB; have HB := n0_; clear n0_; (try clear hb); (try clear hb2); (try clear hk); (try clear hi)) | ((with_reducible refine gate_dst (N := 9) rfl ?_); refine box_event ?hg (N := 9) ?hd (cs := #[.int .i64 0, .int .u64 0, .int .u64 0]) (t := 65) ?hr ?_; (case hd => rfl); (case hg => rfl); (case hr => first | (go_simp; done) | (go_simp; rfl)); intro gb313 hg wf0 hbox hb; have n0_ := Aside0.mk (below_step (by repeat (first | (with_reducible first | exact HB.out | apply below_alloc | apply pw_below_drewN | apply below_drew1) | exact HB.out)) hb); have n1_ := Aside0.mk (hbox); have n2_ := Aside0.mk ((by rw [hg]; exact (below_size (by repeat (first | (with_reducible first | exact HB.out | apply below_alloc | apply pw_below_drewN | apply below_drew1) | exact HB.out))) : w.heap.size ≤ gb313)); have n3_ := Aside0.mk ((by rw [hg]; exact (below_size (by repeat (first | (with_reducible first | exact HB.out | apply below_alloc | apply pw_below_drewN | apply below_drew1) | exact HB.out))) : w.heap.size ≤ gb313)); clear HB; have HB := n0_; have BK313 := n1_; have GW313 := n2_; have GE313 := n3_; clear n0_ n1_ n2_ n3_; clear hb hbox hg) | ((with_reducible refine gate_dst (N := 10) rfl ?_); refine box_event ?hg (N := 10) ?hd (cs := #[.int .i64 0, .int .u64 0, .int .u64 0]) (t := 65) ?hr ?_; (case hd => rfl); (case hg => rfl); (case hr => first | (go_simp; done) | (go_simp; rfl)); intro gb314 hg wf1 hbox hb; have n0_ := Aside0.mk (blk_below (g := gb313) (o := .cells #[.int .i64 0, .int .u64 0, .int .u64 0] 65 (0, 0)) (by (with_reducible repeat (first | refine blk_drewN ?_ _ | refine blk_drew ?_ | refine blk_alloc ?_ _)); exact BK313.out) hb); have n1_ := Aside0.mk (below_step (by repeat (first | (with_reducible first | exact HB.out | apply below_alloc | apply pw_below_drewN | apply below_drew1 | refine below_set ?_ GE313.out) | exact HB.out)) hb); have n2_ := Aside0.mk (hbox); have n3_ := Aside0.mk ((by rw [hg]; exact (below_size (by repeat (first | (with_reducible first | exact HB.out | apply below_alloc | apply pw_below_drewN | apply below_drew1 | refine below_set ?_ GE313.out) | exact HB.out))) : w.heap.size ≤ gb314)); have n4_ := Aside0.mk ((by rw [hg]; exact (below_size (by repeat (first | (with_reducible first | exact HB.out | apply below_alloc | apply pw_below_drewN | apply below_drew1 | refine below_set ?_ GE313.out) | exact HB.out))) : w.heap.size ≤ gb314)); have n5_ := Aside0.mk ((by rw [hg]; exact Nat.ne_of_lt (blk_lt (g := gb313) (o := .cells #[.int .i64 0, .int .u64 0, .int .u64 0] 65 (0, 0)) (by (with_reducible repeat (first | refine blk_drewN ?_ _ | refine blk_drew ?_ | refine blk_alloc ?_ _)); exact BK313.out)) : gb313 ≠ gb314)); have n6_ := Aside0.mk ((by rw [hg]; exact Nat.ne_of_gt (blk_lt (g := gb313) (o := .cells #[.int .i64 0, .int .u64 0, .int .u64 0] 65 (0, 0)) (by (with_reducible repeat (first | refine blk_drewN ?_ _ | refine blk_drew ?_ | refine blk_alloc ?_ _)); exact BK313.out)) : gb314 ≠ gb313)); clear BK313; clear HB; have BK313 := n0_; have HB := n1_; have BK314 := n2_; have GW314 := n3_; have GE314 := n4_; have NB313_314 := n5_; have NB314_313 := n6_; clear n0_ n1_ n2_ n3_ n4_ n5_ n6_; clear hb hbox hg; have hnb13 := NB313_314.out; have hnc13 := NB314_313.out; have hcz14_0 : wf1.cell? ⟨gb313, 0, none⟩ = some (.int .i64 0) := (blk_cell BK313.out 0).trans rfl; have hcz14_1 : wf1.cell? ⟨gb313, 1, none⟩ = some (.int .u64 0) := (blk_cell BK313.out 1).trans rfl; have hcz14_2 : wf1.cell? ⟨gb313, 2, none⟩ = some (.int .u64 0) := (blk_cell BK313.out 2).trans rfl; have hfz14_0 := blk_frozen BK313.out 0; have hfz14_1 := blk_frozen BK313.out 1; have hfz14_2 := blk_frozen BK313.out 2; have hcz15_0 : wf1.cell? ⟨gb314, 0, none⟩ = some (.int .i64 0) := (blk_cell BK314.out 0).trans rfl; have hcz15_1 : wf1.cell? ⟨gb314, 1, none⟩ = some (.int .u64 0) := (blk_cell BK314.out 1).trans rfl; have hcz15_2 : wf1.cell? ⟨gb314, 2, none⟩ = some (.int .u64 0) := (blk_cell BK314.out 2).trans rfl; have hfz15_0 := blk_frozen BK314.out 0; have hfz15_1 := blk_frozen BK314.out 1; have hfz15_2 := blk_frozen BK314.out 2))
  case fp0 =>
    (try simp only [Act.put, List.setIfInBounds_toArray, List.set_cons_zero, List.set_cons_succ])
    go_cut [28] (fun v28 wc => ∃ (kq : Nat) (x28_7 : Bool), v28 = .bool x28_7 ∧ Aside0 (evenhandedref1_Cross.j0 kq 0 x28_7 t307 t308 t309 t310 t311 t312 = some r) ∧ Aside0 (kq ≤ k) ∧ Aside0 (wc.heap[gb313]? = some (.cells #[.int .i64 t307, .int .u64 t308, .int .u64 t309] 65 (0, 0))) ∧ Aside0 (wc.heap[gb314]? = some (.cells #[.int .i64 t310, .int .u64 t311, .int .u64 t312] 65 (0, 0))) ∧ Aside0 (Below w.heap.size w wc))
    case first =>
      have H := HC8.out
      clear HC8
      by_cases c16 : t308 < t311
      · rw [if_pos c16] at H
        have c16b0 : decide (t308 < t311) = true := decide_eq_true c16
        clear c16
        (first | rw [c16b0] | (simp only [i64_w, i32_w]; rw [c16b0]) | skip)
        have H' := Aside0.mk H
        clear H
        have hnb17 := NB313_314.out
        have hnc17 := NB314_313.out
        have hcz18_0 : wf1.cell? ⟨gb313, 0, none⟩ = some (.int .i64 0) := (blk_cell BK313.out 0).trans rfl
        have hcz18_1 : wf1.cell? ⟨gb313, 1, none⟩ = some (.int .u64 0) := (blk_cell BK313.out 1).trans rfl
        have hcz18_2 : wf1.cell? ⟨gb313, 2, none⟩ = some (.int .u64 0) := (blk_cell BK313.out 2).trans rfl
        have hfz18_0 := blk_frozen BK313.out 0
        have hfz18_1 := blk_frozen BK313.out 1
        have hfz18_2 := blk_frozen BK313.out 2
        have hcz19_0 : wf1.cell? ⟨gb314, 0, none⟩ = some (.int .i64 0) := (blk_cell BK314.out 0).trans rfl
        have hcz19_1 : wf1.cell? ⟨gb314, 1, none⟩ = some (.int .u64 0) := (blk_cell BK314.out 1).trans rfl
        have hcz19_2 : wf1.cell? ⟨gb314, 2, none⟩ = some (.int .u64 0) := (blk_cell BK314.out 2).trans rfl
        have hfz19_0 := blk_frozen BK314.out 0
        have hfz19_1 := blk_frozen BK314.out 1
        have hfz19_2 := blk_frozen BK314.out 2
        go_wp2
        go_meet
        case rel => exact ⟨_, (true), (by first | rfl | (simp; done) | (simp [*]; done)), H', ⟨by first | omega | exact Nat.le_refl _⟩, ⟨by (with_reducible repeat (first | refine blk_drewN ?_ _ | refine blk_drew ?_ | refine blk_alloc ?_ _)); refine blk_far ?_ NB313_314.out _; (with_reducible repeat (first | refine blk_drewN ?_ _ | refine blk_drew ?_ | refine blk_alloc ?_ _)); refine blk_far ?_ NB313_314.out _; (with_reducible repeat (first | refine blk_drewN ?_ _ | refine blk_drew ?_ | refine blk_alloc ?_ _)); refine blk_far ?_ NB313_314.out _; (with_reducible repeat (first | refine blk_drewN ?_ _ | refine blk_drew ?_ | refine blk_alloc ?_ _)); refine blk_put (cs := #[.int .i64 t307, .int .u64 t308, .int .u64 0]) ?_ 2 _ rfl; (with_reducible repeat (first | refine blk_drewN ?_ _ | refine blk_drew ?_ | refine blk_alloc ?_ _)); refine blk_put (cs := #[.int .i64 t307, .int .u64 0, .int .u64 0]) ?_ 1 _ rfl; (with_reducible repeat (first | refine blk_drewN ?_ _ | refine blk_drew ?_ | refine blk_alloc ?_ _)); refine blk_put (cs := #[.int .i64 0, .int .u64 0, .int .u64 0]) ?_ 0 _ rfl; (with_reducible repeat (first | refine blk_drewN ?_ _ | refine blk_drew ?_ | refine blk_alloc ?_ _)); exact BK313.out⟩, ⟨by (with_reducible repeat (first | refine blk_drewN ?_ _ | refine blk_drew ?_ | refine blk_alloc ?_ _)); refine blk_put (cs := #[.int .i64 t310, .int .u64 t311, .int .u64 0]) ?_ 2 _ rfl; (with_reducible repeat (first | refine blk_drewN ?_ _ | refine blk_drew ?_ | refine blk_alloc ?_ _)); refine blk_put (cs := #[.int .i64 t310, .int .u64 0, .int .u64 0]) ?_ 1 _ rfl; (with_reducible repeat (first | refine blk_drewN ?_ _ | refine blk_drew ?_ | refine blk_alloc ?_ _)); refine blk_put (cs := #[.int .i64 0, .int .u64 0, .int .u64 0]) ?_ 0 _ rfl; (with_reducible repeat (first | refine blk_drewN ?_ _ | refine blk_drew ?_ | refine blk_alloc ?_ _)); refine blk_far ?_ NB314_313.out _; (with_reducible repeat (first | refine blk_drewN ?_ _ | refine blk_drew ?_ | refine blk_alloc ?_ _)); refine blk_far ?_ NB314_313.out _; (with_reducible repeat (first | refine blk_drewN ?_ _ | refine blk_drew ?_ | refine blk_alloc ?_ _)); refine blk_far ?_ NB314_313.out _; (with_reducible repeat (first | refine blk_drewN ?_ _ | refine blk_drew ?_ | refine blk_alloc ?_ _)); exact BK314.out⟩, ⟨by repeat (first | (with_reducible first | exact HB.out | apply below_alloc | apply pw_below_drewN | apply below_drew1 | refine below_set ?_ GE313.out | refine below_set ?_ GE314.out) | exact HB.out)⟩⟩
      · rw [if_neg c16] at H
        have c16b0 : decide (t308 < t311) = false := decide_eq_false c16
        clear c16
        (first | rw [c16b0] | (simp only [i64_w, i32_w]; rw [c16b0]) | skip)
        by_cases c20 : t308 = t311
        · rw [if_pos c20] at H
          have c20b0 : (t308 == t311) = true := beq_iff_eq.mpr c20
          have c20b1 : (t308 != t311) = false := bne_eq_false_iff_eq.mpr c20
          clear c20
          have H' := Aside0.mk H
          clear H
          have hnb21 := NB313_314.out
          have hnc21 := NB314_313.out
          have hcz22_0 : wf1.cell? ⟨gb313, 0, none⟩ = some (.int .i64 0) := (blk_cell BK313.out 0).trans rfl
          have hcz22_1 : wf1.cell? ⟨gb313, 1, none⟩ = some (.int .u64 0) := (blk_cell BK313.out 1).trans rfl
          have hcz22_2 : wf1.cell? ⟨gb313, 2, none⟩ = some (.int .u64 0) := (blk_cell BK313.out 2).trans rfl
          have hfz22_0 := blk_frozen BK313.out 0
          have hfz22_1 := blk_frozen BK313.out 1
          have hfz22_2 := blk_frozen BK313.out 2
          have hcz23_0 : wf1.cell? ⟨gb314, 0, none⟩ = some (.int .i64 0) := (blk_cell BK314.out 0).trans rfl
          have hcz23_1 : wf1.cell? ⟨gb314, 1, none⟩ = some (.int .u64 0) := (blk_cell BK314.out 1).trans rfl
          have hcz23_2 : wf1.cell? ⟨gb314, 2, none⟩ = some (.int .u64 0) := (blk_cell BK314.out 2).trans rfl
          have hfz23_0 := blk_frozen BK314.out 0
          have hfz23_1 := blk_frozen BK314.out 1
          have hfz23_2 := blk_frozen BK314.out 2
          go_wp2
          go_meet
          case rel => exact ⟨_, (decide (t309 < t312)), (by first | rfl | (simp; done) | (simp [*]; done)), H', ⟨by first | omega | exact Nat.le_refl _⟩, ⟨by (with_reducible repeat (first | refine blk_drewN ?_ _ | refine blk_drew ?_ | refine blk_alloc ?_ _)); refine blk_far ?_ NB313_314.out _; (with_reducible repeat (first | refine blk_drewN ?_ _ | refine blk_drew ?_ | refine blk_alloc ?_ _)); refine blk_far ?_ NB313_314.out _; (with_reducible repeat (first | refine blk_drewN ?_ _ | refine blk_drew ?_ | refine blk_alloc ?_ _)); refine blk_far ?_ NB313_314.out _; (with_reducible repeat (first | refine blk_drewN ?_ _ | refine blk_drew ?_ | refine blk_alloc ?_ _)); refine blk_put (cs := #[.int .i64 t307, .int .u64 t308, .int .u64 0]) ?_ 2 _ rfl; (with_reducible repeat (first | refine blk_drewN ?_ _ | refine blk_drew ?_ | refine blk_alloc ?_ _)); refine blk_put (cs := #[.int .i64 t307, .int .u64 0, .int .u64 0]) ?_ 1 _ rfl; (with_reducible repeat (first | refine blk_drewN ?_ _ | refine blk_drew ?_ | refine blk_alloc ?_ _)); refine blk_put (cs := #[.int .i64 0, .int .u64 0, .int .u64 0]) ?_ 0 _ rfl; (with_reducible repeat (first | refine blk_drewN ?_ _ | refine blk_drew ?_ | refine blk_alloc ?_ _)); exact BK313.out⟩, ⟨by (with_reducible repeat (first | refine blk_drewN ?_ _ | refine blk_drew ?_ | refine blk_alloc ?_ _)); refine blk_put (cs := #[.int .i64 t310, .int .u64 t311, .int .u64 0]) ?_ 2 _ rfl; (with_reducible repeat (first | refine blk_drewN ?_ _ | refine blk_drew ?_ | refine blk_alloc ?_ _)); refine blk_put (cs := #[.int .i64 t310, .int .u64 0, .int .u64 0]) ?_ 1 _ rfl; (with_reducible repeat (first | refine blk_drewN ?_ _ | refine blk_drew ?_ | refine blk_alloc ?_ _)); refine blk_put (cs := #[.int .i64 0, .int .u64 0, .int .u64 0]) ?_ 0 _ rfl; (with_reducible repeat (first | refine blk_drewN ?_ _ | refine blk_drew ?_ | refine blk_alloc ?_ _)); refine blk_far ?_ NB314_313.out _; (with_reducible repeat (first | refine blk_drewN ?_ _ | refine blk_drew ?_ | refine blk_alloc ?_ _)); refine blk_far ?_ NB314_313.out _; (with_reducible repeat (first | refine blk_drewN ?_ _ | refine blk_drew ?_ | refine blk_alloc ?_ _)); refine blk_far ?_ NB314_313.out _; (with_reducible repeat (first | refine blk_drewN ?_ _ | refine blk_drew ?_ | refine blk_alloc ?_ _)); exact BK314.out⟩, ⟨by repeat (first | (with_reducible first | exact HB.out | apply below_alloc | apply pw_below_drewN | apply below_drew1 | refine below_set ?_ GE313.out | refine below_set ?_ GE314.out) | exact HB.out)⟩⟩
        · rw [if_neg c20] at H
          have c20b0 : (t308 == t311) = false := beq_eq_false_iff_ne.mpr c20
          have c20b1 : (t308 != t311) = true := bne_iff_ne.mpr c20
          have H' := Aside0.mk H
          clear H
          have hnb24 := NB313_314.out
          have hnc24 := NB314_313.out
          have hcz25_0 : wf1.cell? ⟨gb313, 0, none⟩ = some (.int .i64 0) := (blk_cell BK313.out 0).trans rfl
          have hcz25_1 : wf1.cell? ⟨gb313, 1, none⟩ = some (.int .u64 0) := (blk_cell BK313.out 1).trans rfl
          have hcz25_2 : wf1.cell? ⟨gb313, 2, none⟩ = some (.int .u64 0) := (blk_cell BK313.out 2).trans rfl
          have hfz25_0 := blk_frozen BK313.out 0
          have hfz25_1 := blk_frozen BK313.out 1
          have hfz25_2 := blk_frozen BK313.out 2
          have hcz26_0 : wf1.cell? ⟨gb314, 0, none⟩ = some (.int .i64 0) := (blk_cell BK314.out 0).trans rfl
          have hcz26_1 : wf1.cell? ⟨gb314, 1, none⟩ = some (.int .u64 0) := (blk_cell BK314.out 1).trans rfl
          have hcz26_2 : wf1.cell? ⟨gb314, 2, none⟩ = some (.int .u64 0) := (blk_cell BK314.out 2).trans rfl
          have hfz26_0 := blk_frozen BK314.out 0
          have hfz26_1 := blk_frozen BK314.out 1
          have hfz26_2 := blk_frozen BK314.out 2
          go_wp2
          go_meet
          case rel => exact ⟨_, (false), (by first | rfl | (simp; done) | (simp [*]; done)), H', ⟨by first | omega | exact Nat.le_refl _⟩, ⟨by (with_reducible repeat (first | refine blk_drewN ?_ _ | refine blk_drew ?_ | refine blk_alloc ?_ _)); refine blk_far ?_ NB313_314.out _; (with_reducible repeat (first | refine blk_drewN ?_ _ | refine blk_drew ?_ | refine blk_alloc ?_ _)); refine blk_far ?_ NB313_314.out _; (with_reducible repeat (first | refine blk_drewN ?_ _ | refine blk_drew ?_ | refine blk_alloc ?_ _)); refine blk_far ?_ NB313_314.out _; (with_reducible repeat (first | refine blk_drewN ?_ _ | refine blk_drew ?_ | refine blk_alloc ?_ _)); refine blk_put (cs := #[.int .i64 t307, .int .u64 t308, .int .u64 0]) ?_ 2 _ rfl; (with_reducible repeat (first | refine blk_drewN ?_ _ | refine blk_drew ?_ | refine blk_alloc ?_ _)); refine blk_put (cs := #[.int .i64 t307, .int .u64 0, .int .u64 0]) ?_ 1 _ rfl; (with_reducible repeat (first | refine blk_drewN ?_ _ | refine blk_drew ?_ | refine blk_alloc ?_ _)); refine blk_put (cs := #[.int .i64 0, .int .u64 0, .int .u64 0]) ?_ 0 _ rfl; (with_reducible repeat (first | refine blk_drewN ?_ _ | refine blk_drew ?_ | refine blk_alloc ?_ _)); exact BK313.out⟩, ⟨by (with_reducible repeat (first | refine blk_drewN ?_ _ | refine blk_drew ?_ | refine blk_alloc ?_ _)); refine blk_put (cs := #[.int .i64 t310, .int .u64 t311, .int .u64 0]) ?_ 2 _ rfl; (with_reducible repeat (first | refine blk_drewN ?_ _ | refine blk_drew ?_ | refine blk_alloc ?_ _)); refine blk_put (cs := #[.int .i64 t310, .int .u64 0, .int .u64 0]) ?_ 1 _ rfl; (with_reducible repeat (first | refine blk_drewN ?_ _ | refine blk_drew ?_ | refine blk_alloc ?_ _)); refine blk_put (cs := #[.int .i64 0, .int .u64 0, .int .u64 0]) ?_ 0 _ rfl; (with_reducible repeat (first | refine blk_drewN ?_ _ | refine blk_drew ?_ | refine blk_alloc ?_ _)); refine blk_far ?_ NB314_313.out _; (with_reducible repeat (first | refine blk_drewN ?_ _ | refine blk_drew ?_ | refine blk_alloc ?_ _)); refine blk_far ?_ NB314_313.out _; (with_reducible repeat (first | refine blk_drewN ?_ _ | refine blk_drew ?_ | refine blk_alloc ?_ _)); refine blk_far ?_ NB314_313.out _; (with_reducible repeat (first | refine blk_drewN ?_ _ | refine blk_drew ?_ | refine blk_alloc ?_ _)); exact BK314.out⟩, ⟨by repeat (first | (with_reducible first | exact HB.out | apply below_alloc | apply pw_below_drewN | apply below_drew1 | refine below_set ?_ GE313.out | refine below_set ?_ GE314.out) | exact HB.out)⟩⟩
    case rest =>
      clear HC8
      try clear c1
      try clear c2
      try clear p2
      try clear c3
      try clear c7
      try clear c7b0
      try clear c7b1
      try clear c13
      try clear c16
      try clear c16b0
      try clear c17
      try clear c20
      try clear c20b0
      try clear c20b1
      try clear c21
      try clear c24
      try clear hcz14_0
      try clear hcz14_1
      try clear hcz14_2
      try clear hcz15_0
      try clear hcz15_1
      try clear hcz15_2
      try clear hcz18_0
      try clear hcz18_1
      try clear hcz18_2
      try clear hcz19_0
      try clear hcz19_1
      try clear hcz19_2
      try clear hcz22_0
      try clear hcz22_1
      try clear hcz22_2
      try clear hcz23_0
      try clear hcz23_1
      try clear hcz23_2
      try clear hcz25_0
      try clear hcz25_1
      try clear hcz25_2
      try clear hcz26_0
      try clear hcz26_1
      try clear hcz26_2
      try clear hfz14_0
      try clear hfz14_1
      try clear hfz14_2
      try clear hfz15_0
      try clear hfz15_1
      try clear hfz15_2
      try clear hfz18_0
      try clear hfz18_1
      try clear hfz18_2
      try clear hfz19_0
      try clear hfz19_1
      try clear hfz19_2
      try clear hfz22_0
      try clear hfz22_1
      try clear hfz22_2
      try clear hfz23_0
      try clear hfz23_1
      try clear hfz23_2
      try clear hfz25_0
      try clear hfz25_1
      try clear hfz25_2
      try clear hfz26_0
      try clear hfz26_1
      try clear hfz26_2
      obtain ⟨kq, x28_7, rfl, HA, HJ7, BK313, BK314, HB⟩ := hcut
      cases kq with
      | zero => exact absurd HA.out (by simp [evenhandedref1_Cross.j0])
      | succ kj7 =>
        have H := HA.out
        clear HA
        simp only [evenhandedref1_Cross.j0] at H
        by_cases c27 : x28_7 = true
        · subst c27
          have H1 : (some (wrap64 ((-1) * t307))) = some r := by rw [if_pos rfl] at H; exact H
          clear H
          have H := H1
          clear H1
          obtain rfl := Option.some.inj H
          have hnb28 := NB313_314.out
          have hnc28 := NB314_313.out
          have hcz29_0 : wc.cell? ⟨gb313, 0, none⟩ = some (.int .i64 t307) := (blk_cell BK313.out 0).trans rfl
          have hcz29_1 : wc.cell? ⟨gb313, 1, none⟩ = some (.int .u64 t308) := (blk_cell BK313.out 1).trans rfl
          have hcz29_2 : wc.cell? ⟨gb313, 2, none⟩ = some (.int .u64 t309) := (blk_cell BK313.out 2).trans rfl
          have hfz29_0 := blk_frozen BK313.out 0
          have hfz29_1 := blk_frozen BK313.out 1
          have hfz29_2 := blk_frozen BK313.out 2
          go_wp2
          go_ret
          exact ⟨by first | rfl | (simp [errW_none, errW_some] <;> rfl) | (simp [*, errW_none, errW_some] <;> rfl) | (simp [errW_none, errW_some] <;> unfold wrap64 <;> omega), by repeat (first | (with_reducible first | exact HB.out | apply below_alloc | apply pw_below_drewN | apply below_drew1 | refine below_set ?_ GE313.out | refine below_set ?_ GE314.out) | exact HB.out)⟩
        · replace c27 := Bool.eq_false_iff.mpr c27
          subst c27
          have H1 : (if t308 = t311 then (if t309 = t312 then (some (wrap64 (0 * t307))) else (some (wrap64 (1 * t307)))) else (some (wrap64 (1 * t307)))) = some r := by rw [if_neg (show ¬ (false = true) by decide)] at H; exact H
          clear H
          have H := H1
          clear H1
          by_cases c30 : t308 = t311
          · rw [if_pos c30] at H
            have c30b0 : (t308 == t311) = true := beq_iff_eq.mpr c30
            have c30b1 : (t308 != t311) = false := bne_eq_false_iff_eq.mpr c30
            clear c30
            by_cases c31 : t309 = t312
            · rw [if_pos c31] at H
              have c31b0 : (t309 == t312) = true := beq_iff_eq.mpr c31
              have c31b1 : (t309 != t312) = false := bne_eq_false_iff_eq.mpr c31
              clear c31
              obtain rfl := Option.some.inj H
              have hnb32 := NB313_314.out
              have hnc32 := NB314_313.out
              have hcz33_0 : wc.cell? ⟨gb313, 0, none⟩ = some (.int .i64 t307) := (blk_cell BK313.out 0).trans rfl
              have hcz33_1 : wc.cell? ⟨gb313, 1, none⟩ = some (.int .u64 t308) := (blk_cell BK313.out 1).trans rfl
              have hcz33_2 : wc.cell? ⟨gb313, 2, none⟩ = some (.int .u64 t309) := (blk_cell BK313.out 2).trans rfl
              have hfz33_0 := blk_frozen BK313.out 0
              have hfz33_1 := blk_frozen BK313.out 1
              have hfz33_2 := blk_frozen BK313.out 2
              have hcz34_0 : wc.cell? ⟨gb314, 0, none⟩ = some (.int .i64 t310) := (blk_cell BK314.out 0).trans rfl
              have hcz34_1 : wc.cell? ⟨gb314, 1, none⟩ = some (.int .u64 t311) := (blk_cell BK314.out 1).trans rfl
              have hcz34_2 : wc.cell? ⟨gb314, 2, none⟩ = some (.int .u64 t312) := (blk_cell BK314.out 2).trans rfl
              have hfz34_0 := blk_frozen BK314.out 0
              have hfz34_1 := blk_frozen BK314.out 1
              have hfz34_2 := blk_frozen BK314.out 2
              go_wp2
              go_ret
              exact ⟨by first | rfl | (simp [errW_none, errW_some] <;> rfl) | (simp [*, errW_none, errW_some] <;> rfl) | (simp [errW_none, errW_some] <;> unfold wrap64 <;> omega), by repeat (first | (with_reducible first | exact HB.out | apply below_alloc | apply pw_below_drewN | apply below_drew1 | refine below_set ?_ GE313.out | refine below_set ?_ GE314.out) | exact HB.out)⟩
            · rw [if_neg c31] at H
              have c31b0 : (t309 == t312) = false := beq_eq_false_iff_ne.mpr c31
              have c31b1 : (t309 != t312) = true := bne_iff_ne.mpr c31
              obtain rfl := Option.some.inj H
              have hnb35 := NB313_314.out
              have hnc35 := NB314_313.out
              have hcz36_0 : wc.cell? ⟨gb313, 0, none⟩ = some (.int .i64 t307) := (blk_cell BK313.out 0).trans rfl
              have hcz36_1 : wc.cell? ⟨gb313, 1, none⟩ = some (.int .u64 t308) := (blk_cell BK313.out 1).trans rfl
              have hcz36_2 : wc.cell? ⟨gb313, 2, none⟩ = some (.int .u64 t309) := (blk_cell BK313.out 2).trans rfl
              have hfz36_0 := blk_frozen BK313.out 0
              have hfz36_1 := blk_frozen BK313.out 1
              have hfz36_2 := blk_frozen BK313.out 2
              have hcz37_0 : wc.cell? ⟨gb314, 0, none⟩ = some (.int .i64 t310) := (blk_cell BK314.out 0).trans rfl
              have hcz37_1 : wc.cell? ⟨gb314, 1, none⟩ = some (.int .u64 t311) := (blk_cell BK314.out 1).trans rfl
              have hcz37_2 : wc.cell? ⟨gb314, 2, none⟩ = some (.int .u64 t312) := (blk_cell BK314.out 2).trans rfl
              have hfz37_0 := blk_frozen BK314.out 0
              have hfz37_1 := blk_frozen BK314.out 1
              have hfz37_2 := blk_frozen BK314.out 2
              go_wp2
              go_ret
              exact ⟨by first | rfl | (simp [errW_none, errW_some] <;> rfl) | (simp [*, errW_none, errW_some] <;> rfl) | (simp [errW_none, errW_some] <;> unfold wrap64 <;> omega), by repeat (first | (with_reducible first | exact HB.out | apply below_alloc | apply pw_below_drewN | apply below_drew1 | refine below_set ?_ GE313.out | refine below_set ?_ GE314.out) | exact HB.out)⟩
          · rw [if_neg c30] at H
            have c30b0 : (t308 == t311) = false := beq_eq_false_iff_ne.mpr c30
            have c30b1 : (t308 != t311) = true := bne_iff_ne.mpr c30
            obtain rfl := Option.some.inj H
            have hnb38 := NB313_314.out
            have hnc38 := NB314_313.out
            have hcz39_0 : wc.cell? ⟨gb313, 0, none⟩ = some (.int .i64 t307) := (blk_cell BK313.out 0).trans rfl
            have hcz39_1 : wc.cell? ⟨gb313, 1, none⟩ = some (.int .u64 t308) := (blk_cell BK313.out 1).trans rfl
            have hcz39_2 : wc.cell? ⟨gb313, 2, none⟩ = some (.int .u64 t309) := (blk_cell BK313.out 2).trans rfl
            have hfz39_0 := blk_frozen BK313.out 0
            have hfz39_1 := blk_frozen BK313.out 1
            have hfz39_2 := blk_frozen BK313.out 2
            have hcz40_0 : wc.cell? ⟨gb314, 0, none⟩ = some (.int .i64 t310) := (blk_cell BK314.out 0).trans rfl
            have hcz40_1 : wc.cell? ⟨gb314, 1, none⟩ = some (.int .u64 t311) := (blk_cell BK314.out 1).trans rfl
            have hcz40_2 : wc.cell? ⟨gb314, 2, none⟩ = some (.int .u64 t312) := (blk_cell BK314.out 2).trans rfl
            have hfz40_0 := blk_frozen BK314.out 0
            have hfz40_1 := blk_frozen BK314.out 1
            have hfz40_2 := blk_frozen BK314.out 2
            go_wp2
            go_ret
            exact ⟨by first | rfl | (simp [errW_none, errW_some] <;> rfl) | (simp [*, errW_none, errW_some] <;> rfl) | (simp [errW_none, errW_some] <;> unfold wrap64 <;> omega), by repeat (first | (with_reducible first | exact HB.out | apply below_alloc | apply pw_below_drewN | apply below_drew1 | refine below_set ?_ GE313.out | refine below_set ?_ GE314.out) | exact HB.out)⟩
  case fp1 | fn1 =>
    go_ret
    exact ⟨by first | rfl | (simp [errW_none, errW_some] <;> rfl) | (simp [*, errW_none, errW_some] <;> rfl) | (simp [errW_none, errW_some] <;> unfold wrap64 <;> omega), by repeat (first | (with_reducible first | exact HB.out | apply below_alloc | apply pw_below_drewN | apply below_drew1 | refine below_set ?_ GE313.out | refine below_set ?_ GE314.out) | exact HB.out)⟩

/-! ### evenhandedref1_Less: function 17 -/
def evenhandedref1_Less.f (k : Nat) (a0_0 : Int) (a0_1 : Int) (a1_0 : Int) (a1_1 : Int) : Option (Bool) := (evenhandedref1_Cross.f k a0_0 a1_1 a1_0 a0_1).bind fun t317 => (some (decide (t317 < 0)))
set_option maxHeartbeats 8000000 in
set_option maxRecDepth 100000 in
theorem evenhandedref1_Less.calls (k : Nat) (a0_0 : Int) (a0_1 : Int) (a1_0 : Int) (a1_1 : Int) (r : Bool) (w : World) (h : evenhandedref1_Less.f k a0_0 a0_1 a1_0 a1_1 = some r) :
    Calls Try.prog 17 #[.agg #[.int .i64 a0_0, .int .i64 a0_1], .agg #[.int .i64 a1_0, .int .i64 a1_1]] w fun e w' => e = .returned (.bool r) ∧ Below w.heap.size w w' := by
  have hu37 := Try.underlying37
  have HB := Aside0.mk (Below.refl w.heap.size w)
  have H : ((evenhandedref1_Cross.f k a0_0 a1_1 a1_0 a0_1).bind fun t317 => (some (decide (t317 < 0)))) = some r := h
  clear h
  replace H := Option.bind_eq_some_iff.mp H
  obtain ⟨t317, A30, H⟩ := H
  replace H : (some (decide (t317 < 0))) = some r := H
  have A3 := Aside0.mk A30
  clear A30
  obtain rfl := Option.some.inj H
  go_enter Try.func17, Try.ntmps17
  go_wp2_with (first | ((with_reducible refine gate_dst (N := 2) rfl ?_); refine box_event ?hg (N := 2) ?hd (cs := #[.int .i64 a0_0, .int .i64 a0_1]) (t := 37) ?hr ?_; (case hd => rfl); (case hg => rfl); (case hr => first | (go_simp; done) | (go_simp; rfl)); intro gb315 hg w4 hbox hb; have n0_ := Aside0.mk (below_step (by repeat (first | (with_reducible first | exact HB.out | apply below_alloc | apply pw_below_drewN | apply below_drew1) | exact HB.out)) hb); have n1_ := Aside0.mk (hbox); have n2_ := Aside0.mk ((by rw [hg]; exact (below_size (by repeat (first | (with_reducible first | exact HB.out | apply below_alloc | apply pw_below_drewN | apply below_drew1) | exact HB.out))) : w.heap.size ≤ gb315)); have n3_ := Aside0.mk ((by rw [hg]; exact (below_size (by repeat (first | (with_reducible first | exact HB.out | apply below_alloc | apply pw_below_drewN | apply below_drew1) | exact HB.out))) : w.heap.size ≤ gb315)); clear HB; have HB := n0_; have BK315 := n1_; have GW315 := n2_; have GE315 := n3_; clear n0_ n1_ n2_ n3_; clear hb hbox hg) | ((with_reducible refine gate_dst (N := 3) rfl ?_); refine box_event ?hg (N := 3) ?hd (cs := #[.int .i64 a1_0, .int .i64 a1_1]) (t := 37) ?hr ?_; (case hd => rfl); (case hg => rfl); (case hr => first | (go_simp; done) | (go_simp; rfl)); intro gb316 hg w5 hbox hb; have n0_ := Aside0.mk (blk_below (g := gb315) (o := .cells #[.int .i64 a0_0, .int .i64 a0_1] 37 (0, 0)) (by (with_reducible repeat (first | refine blk_drewN ?_ _ | refine blk_drew ?_ | refine blk_alloc ?_ _)); exact BK315.out) hb); have n1_ := Aside0.mk (below_step (by repeat (first | (with_reducible first | exact HB.out | apply below_alloc | apply pw_below_drewN | apply below_drew1 | refine below_set ?_ GE315.out) | exact HB.out)) hb); have n2_ := Aside0.mk (hbox); have n3_ := Aside0.mk ((by rw [hg]; exact (below_size (by repeat (first | (with_reducible first | exact HB.out | apply below_alloc | apply pw_below_drewN | apply below_drew1 | refine below_set ?_ GE315.out) | exact HB.out))) : w.heap.size ≤ gb316)); have n4_ := Aside0.mk ((by rw [hg]; exact (below_size (by repeat (first | (with_reducible first | exact HB.out | apply below_alloc | apply pw_below_drewN | apply below_drew1 | refine below_set ?_ GE315.out) | exact HB.out))) : w.heap.size ≤ gb316)); have n5_ := Aside0.mk ((by rw [hg]; exact Nat.ne_of_lt (blk_lt (g := gb315) (o := .cells #[.int .i64 a0_0, .int .i64 a0_1] 37 (0, 0)) (by (with_reducible repeat (first | refine blk_drewN ?_ _ | refine blk_drew ?_ | refine blk_alloc ?_ _)); exact BK315.out)) : gb315 ≠ gb316)); have n6_ := Aside0.mk ((by rw [hg]; exact Nat.ne_of_gt (blk_lt (g := gb315) (o := .cells #[.int .i64 a0_0, .int .i64 a0_1] 37 (0, 0)) (by (with_reducible repeat (first | refine blk_drewN ?_ _ | refine blk_drew ?_ | refine blk_alloc ?_ _)); exact BK315.out)) : gb316 ≠ gb315)); clear BK315; clear HB; have BK315 := n0_; have HB := n1_; have BK316 := n2_; have GW316 := n3_; have GE316 := n4_; have NB315_316 := n5_; have NB316_315 := n6_; clear n0_ n1_ n2_ n3_ n4_ n5_ n6_; clear hb hbox hg; have hnb6 := NB315_316.out; have hnc6 := NB316_315.out; have hcz7_0 : w5.cell? ⟨gb315, 0, none⟩ = some (.int .i64 a0_0) := (blk_cell BK315.out 0).trans rfl; have hcz7_1 : w5.cell? ⟨gb315, 1, none⟩ = some (.int .i64 a0_1) := (blk_cell BK315.out 1).trans rfl; have hfz7_0 := blk_frozen BK315.out 0; have hfz7_1 := blk_frozen BK315.out 1; have hcz8_0 : w5.cell? ⟨gb316, 0, none⟩ = some (.int .i64 a1_0) := (blk_cell BK316.out 0).trans rfl; have hcz8_1 : w5.cell? ⟨gb316, 1, none⟩ = some (.int .i64 a1_1) := (blk_cell BK316.out 1).trans rfl; have hfz8_0 := blk_frozen BK316.out 0; have hfz8_1 := blk_frozen BK316.out 1) | ((with_reducible refine gate_callee (f := 31) rfl ?_); refine goesL_ (some 13) rfl rfl Try.func31 (by kernel_rfl) rfl #[.int .i64 a0_0, .int .i64 a1_1, .int .i64 a1_0, .int .i64 a0_1] rfl (by (try simp only [List.map_toArray, List.map_cons, List.map_nil]); first | done | rfl | (simp only [List.length_drop, List.length_take]; rfl)) ?_; (with_reducible refine (evenhandedref1_Cross.calls k a0_0 a1_1 a1_0 a0_1 t317 _ A3.out).mono ?_); rintro e w9 ⟨rfl, hb⟩; refine ⟨_, rfl, ?_⟩; have n0_ := Aside0.mk (blk_below (g := gb315) (o := .cells #[.int .i64 a0_0, .int .i64 a0_1] 37 (0, 0)) (by (with_reducible repeat (first | refine blk_drewN ?_ _ | refine blk_drew ?_ | refine blk_alloc ?_ _)); exact BK315.out) hb); have n1_ := Aside0.mk (blk_below (g := gb316) (o := .cells #[.int .i64 a1_0, .int .i64 a1_1] 37 (0, 0)) (by (with_reducible repeat (first | refine blk_drewN ?_ _ | refine blk_drew ?_ | refine blk_alloc ?_ _)); exact BK316.out) hb); have n2_ := Aside0.mk (below_step (by repeat (first | (with_reducible first | exact HB.out | apply below_alloc | apply pw_below_drewN | apply below_drew1 | refine below_set ?_ GE315.out | refine below_set ?_ GE316.out) | exact HB.out)) hb); clear BK315; clear BK316; clear HB; have BK315 := n0_; have BK316 := n1_; have HB := n2_; clear n0_ n1_ n2_; (try clear hb); (try clear hb2); (try clear hk); (try clear hi)))
  go_ret
  exact ⟨by first | rfl | (simp [errW_none, errW_some] <;> rfl) | (simp [*, errW_none, errW_some] <;> rfl) | (simp [errW_none, errW_some] <;> unfold wrap64 <;> omega), by repeat (first | (with_reducible first | exact HB.out | apply below_alloc | apply pw_below_drewN | apply below_drew1 | refine below_set ?_ GE315.out | refine below_set ?_ GE316.out) | exact HB.out)⟩

/-! ### evenhandedref12_whole: function 29 -/
def evenhandedref12_whole.f (a0 : Int) : Option (Int × Int) := some (a0, 1)
set_option maxHeartbeats 8000000 in
set_option maxRecDepth 100000 in
theorem evenhandedref12_whole.calls (a0 : Int) (r1 : Int) (r2 : Int) (w : World) (h : evenhandedref12_whole.f a0 = some (r1, r2)) :
    Calls Try.prog 29 #[.int .i64 a0] w fun e w' => e = .returned (.agg #[.int .i64 r1, .int .i64 r2]) ∧ Below w.heap.size w w' := by
  have hu37 := Try.underlying37
  have HB := Aside0.mk (Below.refl w.heap.size w)
  have H : (some (a0, 1)) = some (r1, r2) := h
  clear h
  simp only [Option.some.injEq, Prod.mk.injEq] at H
  obtain ⟨rfl, rfl⟩ := H
  go_enter Try.func29, Try.ntmps29
  go_wp2_with (first | ((with_reducible refine gate_dst (N := 2) rfl ?_); refine box_event ?hg (N := 2) ?hd (cs := #[.int .i64 0, .int .i64 0]) (t := 37) ?hr ?_; (case hd => rfl); (case hg => rfl); (case hr => first | (go_simp; done) | (go_simp; rfl)); intro gb318 hg w2 hbox hb; have n0_ := Aside0.mk (below_step (by repeat (first | (with_reducible first | exact HB.out | apply below_alloc | apply pw_below_drewN | apply below_drew1) | exact HB.out)) hb); have n1_ := Aside0.mk (hbox); have n2_ := Aside0.mk ((by rw [hg]; exact (below_size (by repeat (first | (with_reducible first | exact HB.out | apply below_alloc | apply pw_below_drewN | apply below_drew1) | exact HB.out))) : w.heap.size ≤ gb318)); have n3_ := Aside0.mk ((by rw [hg]; exact (below_size (by repeat (first | (with_reducible first | exact HB.out | apply below_alloc | apply pw_below_drewN | apply below_drew1) | exact HB.out))) : w.heap.size ≤ gb318)); clear HB; have HB := n0_; have BK318 := n1_; have GW318 := n2_; have GE318 := n3_; clear n0_ n1_ n2_ n3_; clear hb hbox hg; have hcz3_0 : w2.cell? ⟨gb318, 0, none⟩ = some (.int .i64 0) := (blk_cell BK318.out 0).trans rfl; have hcz3_1 : w2.cell? ⟨gb318, 1, none⟩ = some (.int .i64 0) := (blk_cell BK318.out 1).trans rfl; have hfz3_0 := blk_frozen BK318.out 0; have hfz3_1 := blk_frozen BK318.out 1))
  refine bodyPost_ret (results_cell_row rfl _ _ gb318 37 #[.int .i64 a0, .int .i64 1] (0, 0) _ rfl (by (with_reducible repeat (first | refine blk_drewN ?_ _ | refine blk_drew ?_ | refine blk_alloc ?_ _)); refine blk_put (cs := #[.int .i64 a0, .int .i64 0]) ?_ 1 _ rfl; (with_reducible repeat (first | refine blk_drewN ?_ _ | refine blk_drew ?_ | refine blk_alloc ?_ _)); refine blk_put (cs := #[.int .i64 0, .int .i64 0]) ?_ 0 _ rfl; (with_reducible repeat (first | refine blk_drewN ?_ _ | refine blk_drew ?_ | refine blk_alloc ?_ _)); exact BK318.out) Try.underlying37 rfl (by kernel_rfl)) rfl ?_
  exact ⟨by first | rfl | (simp [errW_none, errW_some] <;> rfl) | (simp [*, errW_none, errW_some] <;> rfl) | (simp [errW_none, errW_some] <;> unfold wrap64 <;> omega), by repeat (first | (with_reducible first | exact HB.out | apply below_alloc | apply pw_below_drewN | apply below_drew1 | refine below_set ?_ GE318.out) | exact HB.out)⟩

/-! ### evenhandedref1_RatMay: function 30 -/
def evenhandedref1_RatMay.f (k : Nat) (a0_0 : Int) (a0_1 : Int) : Option (Bool) := if a0_1 > 0 then (if a0_0 = (-9223372036854775808) then (some ((Int.tmod a0_1 2) == 1)) else ((evenhandedref1_Gcd.f k a0_0 a0_1).bind fun t320 => (if t320 = 1 then (some true) else (some false)))) else (some false)
set_option maxHeartbeats 8000000 in
set_option maxRecDepth 100000 in
theorem evenhandedref1_RatMay.calls (k : Nat) (a0_0 : Int) (a0_1 : Int) (r : Bool) (w : World) (h : evenhandedref1_RatMay.f k a0_0 a0_1 = some r) :
    Calls Try.prog 30 #[.agg #[.int .i64 a0_0, .int .i64 a0_1]] w fun e w' => e = .returned (.bool r) ∧ Below w.heap.size w w' := by
  have hu37 := Try.underlying37
  have HB := Aside0.mk (Below.refl w.heap.size w)
  have H : (if a0_1 > 0 then (if a0_0 = (-9223372036854775808) then (some ((Int.tmod a0_1 2) == 1)) else ((evenhandedref1_Gcd.f k a0_0 a0_1).bind fun t320 => (if t320 = 1 then (some true) else (some false)))) else (some false)) = some r := h
  clear h
  by_cases c2 : a0_1 > 0
  · rw [if_pos c2] at H
    have c2b0 : decide (0 < a0_1) = true := decide_eq_true c2
    clear c2
    by_cases c3 : a0_0 = (-9223372036854775808)
    · rw [if_pos c3] at H
      have c3b0 : (a0_0 == (-9223372036854775808)) = true := beq_iff_eq.mpr c3
      have c3b1 : (a0_0 != (-9223372036854775808)) = false := bne_eq_false_iff_eq.mpr c3
      clear c3
      obtain rfl := Option.some.inj H
      go_enter Try.func30, Try.ntmps30
      go_wp2_with (first | ((with_reducible refine gate_dst (N := 1) rfl ?_); refine box_event ?hg (N := 1) ?hd (cs := #[.int .i64 a0_0, .int .i64 a0_1]) (t := 37) ?hr ?_; (case hd => rfl); (case hg => rfl); (case hr => first | (go_simp; done) | (go_simp; rfl)); intro gb319 hg w4 hbox hb; have n0_ := Aside0.mk (below_step (by repeat (first | (with_reducible first | exact HB.out | apply below_alloc | apply pw_below_drewN | apply below_drew1) | exact HB.out)) hb); have n1_ := Aside0.mk (hbox); have n2_ := Aside0.mk ((by rw [hg]; exact (below_size (by repeat (first | (with_reducible first | exact HB.out | apply below_alloc | apply pw_below_drewN | apply below_drew1) | exact HB.out))) : w.heap.size ≤ gb319)); have n3_ := Aside0.mk ((by rw [hg]; exact (below_size (by repeat (first | (with_reducible first | exact HB.out | apply below_alloc | apply pw_below_drewN | apply below_drew1) | exact HB.out))) : w.heap.size ≤ gb319)); clear HB; have HB := n0_; have BK319 := n1_; have GW319 := n2_; have GE319 := n3_; clear n0_ n1_ n2_ n3_; clear hb hbox hg; have hcz5_0 : w4.cell? ⟨gb319, 0, none⟩ = some (.int .i64 a0_0) := (blk_cell BK319.out 0).trans rfl; have hcz5_1 : w4.cell? ⟨gb319, 1, none⟩ = some (.int .i64 a0_1) := (blk_cell BK319.out 1).trans rfl; have hfz5_0 := blk_frozen BK319.out 0; have hfz5_1 := blk_frozen BK319.out 1))
      go_ret
      exact ⟨by first | rfl | (simp [errW_none, errW_some] <;> rfl) | (simp [*, errW_none, errW_some] <;> rfl) | (simp [errW_none, errW_some] <;> unfold wrap64 <;> omega), by repeat (first | (with_reducible first | exact HB.out | apply below_alloc | apply pw_below_drewN | apply below_drew1 | refine below_set ?_ GE319.out) | exact HB.out)⟩
    · rw [if_neg c3] at H
      have c3b0 : (a0_0 == (-9223372036854775808)) = false := beq_eq_false_iff_ne.mpr c3
      have c3b1 : (a0_0 != (-9223372036854775808)) = true := bne_iff_ne.mpr c3
      replace H := Option.bind_eq_some_iff.mp H
      obtain ⟨t320, A60, H⟩ := H
      replace H : (if t320 = 1 then (some true) else (some false)) = some r := H
      have A6 := Aside0.mk A60
      clear A60
      by_cases c7 : t320 = 1
      · rw [if_pos c7] at H
        have c7b0 : (t320 == 1) = true := beq_iff_eq.mpr c7
        have c7b1 : (t320 != 1) = false := bne_eq_false_iff_eq.mpr c7
        clear c7
        obtain rfl := Option.some.inj H
        go_enter Try.func30, Try.ntmps30
        go_wp2_with (first | ((with_reducible refine gate_dst (N := 1) rfl ?_); refine box_event ?hg (N := 1) ?hd (cs := #[.int .i64 a0_0, .int .i64 a0_1]) (t := 37) ?hr ?_; (case hd => rfl); (case hg => rfl); (case hr => first | (go_simp; done) | (go_simp; rfl)); intro gb319 hg w8 hbox hb; have n0_ := Aside0.mk (below_step (by repeat (first | (with_reducible first | exact HB.out | apply below_alloc | apply pw_below_drewN | apply below_drew1) | exact HB.out)) hb); have n1_ := Aside0.mk (hbox); have n2_ := Aside0.mk ((by rw [hg]; exact (below_size (by repeat (first | (with_reducible first | exact HB.out | apply below_alloc | apply pw_below_drewN | apply below_drew1) | exact HB.out))) : w.heap.size ≤ gb319)); have n3_ := Aside0.mk ((by rw [hg]; exact (below_size (by repeat (first | (with_reducible first | exact HB.out | apply below_alloc | apply pw_below_drewN | apply below_drew1) | exact HB.out))) : w.heap.size ≤ gb319)); clear HB; have HB := n0_; have BK319 := n1_; have GW319 := n2_; have GE319 := n3_; clear n0_ n1_ n2_ n3_; clear hb hbox hg; have hcz9_0 : w8.cell? ⟨gb319, 0, none⟩ = some (.int .i64 a0_0) := (blk_cell BK319.out 0).trans rfl; have hcz9_1 : w8.cell? ⟨gb319, 1, none⟩ = some (.int .i64 a0_1) := (blk_cell BK319.out 1).trans rfl; have hfz9_0 := blk_frozen BK319.out 0; have hfz9_1 := blk_frozen BK319.out 1) | (go_at_call 22; (with_reducible refine (evenhandedref1_Gcd.calls k a0_0 a0_1 t320 _ A6.out).mono ?_); rintro e w10 ⟨rfl, hb⟩; have n0_ := Aside0.mk (blk_below (g := gb319) (o := .cells #[.int .i64 a0_0, .int .i64 a0_1] 37 (0, 0)) (by (with_reducible repeat (first | refine blk_drewN ?_ _ | refine blk_drew ?_ | refine blk_alloc ?_ _)); exact BK319.out) hb); have n1_ := Aside0.mk (below_step (by repeat (first | (with_reducible first | exact HB.out | apply below_alloc | apply pw_below_drewN | apply below_drew1 | refine below_set ?_ GE319.out) | exact HB.out)) hb); clear BK319; clear HB; have BK319 := n0_; have HB := n1_; clear n0_ n1_; (try clear hb); (try clear hb2); (try clear hk); (try clear hi)))
        go_ret
        exact ⟨by first | rfl | (simp [errW_none, errW_some] <;> rfl) | (simp [*, errW_none, errW_some] <;> rfl) | (simp [errW_none, errW_some] <;> unfold wrap64 <;> omega), by repeat (first | (with_reducible first | exact HB.out | apply below_alloc | apply pw_below_drewN | apply below_drew1 | refine below_set ?_ GE319.out) | exact HB.out)⟩
      · rw [if_neg c7] at H
        have c7b0 : (t320 == 1) = false := beq_eq_false_iff_ne.mpr c7
        have c7b1 : (t320 != 1) = true := bne_iff_ne.mpr c7
        obtain rfl := Option.some.inj H
        go_enter Try.func30, Try.ntmps30
        go_wp2_with (first | ((with_reducible refine gate_dst (N := 1) rfl ?_); refine box_event ?hg (N := 1) ?hd (cs := #[.int .i64 a0_0, .int .i64 a0_1]) (t := 37) ?hr ?_; (case hd => rfl); (case hg => rfl); (case hr => first | (go_simp; done) | (go_simp; rfl)); intro gb319 hg w11 hbox hb; have n0_ := Aside0.mk (below_step (by repeat (first | (with_reducible first | exact HB.out | apply below_alloc | apply pw_below_drewN | apply below_drew1) | exact HB.out)) hb); have n1_ := Aside0.mk (hbox); have n2_ := Aside0.mk ((by rw [hg]; exact (below_size (by repeat (first | (with_reducible first | exact HB.out | apply below_alloc | apply pw_below_drewN | apply below_drew1) | exact HB.out))) : w.heap.size ≤ gb319)); have n3_ := Aside0.mk ((by rw [hg]; exact (below_size (by repeat (first | (with_reducible first | exact HB.out | apply below_alloc | apply pw_below_drewN | apply below_drew1) | exact HB.out))) : w.heap.size ≤ gb319)); clear HB; have HB := n0_; have BK319 := n1_; have GW319 := n2_; have GE319 := n3_; clear n0_ n1_ n2_ n3_; clear hb hbox hg; have hcz12_0 : w11.cell? ⟨gb319, 0, none⟩ = some (.int .i64 a0_0) := (blk_cell BK319.out 0).trans rfl; have hcz12_1 : w11.cell? ⟨gb319, 1, none⟩ = some (.int .i64 a0_1) := (blk_cell BK319.out 1).trans rfl; have hfz12_0 := blk_frozen BK319.out 0; have hfz12_1 := blk_frozen BK319.out 1) | (go_at_call 22; (with_reducible refine (evenhandedref1_Gcd.calls k a0_0 a0_1 t320 _ A6.out).mono ?_); rintro e w13 ⟨rfl, hb⟩; have n0_ := Aside0.mk (blk_below (g := gb319) (o := .cells #[.int .i64 a0_0, .int .i64 a0_1] 37 (0, 0)) (by (with_reducible repeat (first | refine blk_drewN ?_ _ | refine blk_drew ?_ | refine blk_alloc ?_ _)); exact BK319.out) hb); have n1_ := Aside0.mk (below_step (by repeat (first | (with_reducible first | exact HB.out | apply below_alloc | apply pw_below_drewN | apply below_drew1 | refine below_set ?_ GE319.out) | exact HB.out)) hb); clear BK319; clear HB; have BK319 := n0_; have HB := n1_; clear n0_ n1_; (try clear hb); (try clear hb2); (try clear hk); (try clear hi); have hcz14_0 : w13.cell? ⟨gb319, 0, none⟩ = some (.int .i64 a0_0) := (blk_cell BK319.out 0).trans rfl; have hcz14_1 : w13.cell? ⟨gb319, 1, none⟩ = some (.int .i64 a0_1) := (blk_cell BK319.out 1).trans rfl; have hfz14_0 := blk_frozen BK319.out 0; have hfz14_1 := blk_frozen BK319.out 1))
        go_ret
        exact ⟨by first | rfl | (simp [errW_none, errW_some] <;> rfl) | (simp [*, errW_none, errW_some] <;> rfl) | (simp [errW_none, errW_some] <;> unfold wrap64 <;> omega), by repeat (first | (with_reducible first | exact HB.out | apply below_alloc | apply pw_below_drewN | apply below_drew1 | refine below_set ?_ GE319.out) | exact HB.out)⟩
  · rw [if_neg c2] at H
    have c2b0 : decide (0 < a0_1) = false := decide_eq_false c2
    clear c2
    obtain rfl := Option.some.inj H
    go_enter Try.func30, Try.ntmps30
    go_wp2_with (first | ((with_reducible refine gate_dst (N := 1) rfl ?_); refine box_event ?hg (N := 1) ?hd (cs := #[.int .i64 a0_0, .int .i64 a0_1]) (t := 37) ?hr ?_; (case hd => rfl); (case hg => rfl); (case hr => first | (go_simp; done) | (go_simp; rfl)); intro gb319 hg w15 hbox hb; have n0_ := Aside0.mk (below_step (by repeat (first | (with_reducible first | exact HB.out | apply below_alloc | apply pw_below_drewN | apply below_drew1) | exact HB.out)) hb); have n1_ := Aside0.mk (hbox); have n2_ := Aside0.mk ((by rw [hg]; exact (below_size (by repeat (first | (with_reducible first | exact HB.out | apply below_alloc | apply pw_below_drewN | apply below_drew1) | exact HB.out))) : w.heap.size ≤ gb319)); have n3_ := Aside0.mk ((by rw [hg]; exact (below_size (by repeat (first | (with_reducible first | exact HB.out | apply below_alloc | apply pw_below_drewN | apply below_drew1) | exact HB.out))) : w.heap.size ≤ gb319)); clear HB; have HB := n0_; have BK319 := n1_; have GW319 := n2_; have GE319 := n3_; clear n0_ n1_ n2_ n3_; clear hb hbox hg; have hcz16_0 : w15.cell? ⟨gb319, 0, none⟩ = some (.int .i64 a0_0) := (blk_cell BK319.out 0).trans rfl; have hcz16_1 : w15.cell? ⟨gb319, 1, none⟩ = some (.int .i64 a0_1) := (blk_cell BK319.out 1).trans rfl; have hfz16_0 := blk_frozen BK319.out 0; have hfz16_1 := blk_frozen BK319.out 1))
    go_ret
    exact ⟨by first | rfl | (simp [errW_none, errW_some] <;> rfl) | (simp [*, errW_none, errW_some] <;> rfl) | (simp [errW_none, errW_some] <;> unfold wrap64 <;> omega), by repeat (first | (with_reducible first | exact HB.out | apply below_alloc | apply pw_below_drewN | apply below_drew1 | refine below_set ?_ GE319.out) | exact HB.out)⟩

-- NOT PRINTED: function 13 (evenhandedref12_Lay)

/-! ### evenhandedref23_SamePieces: function 14 -/
def evenhandedref23_SamePieces.l0 : Nat → List (S41) → List (S41) → Int → Option (Bool)
  | 0, _, _, _ => none
  | k + 1, x0, x1, x5 => if x5 < (x0.length : Int) then (if 0 ≤ x5 then (if x5 < (x1.length : Int) then (if (!(((rd_T41 x0 x5).f0) == ((rd_T41 x1 x5).f0)) || (!(((rd_T41 x0 x5).f1) == ((rd_T41 x1 x5).f1)) || (!(((rd_T41 x0 x5).f2) == ((rd_T41 x1 x5).f2)) || ((!(((rd_T41 x0 x5).f3.f0) == ((rd_T41 x1 x5).f3.f0)) || (!(((rd_T41 x0 x5).f3.f1) == ((rd_T41 x1 x5).f3.f1)))) || ((!(((rd_T41 x0 x5).f4.f0) == ((rd_T41 x1 x5).f4.f0)) || (!(((rd_T41 x0 x5).f4.f1) == ((rd_T41 x1 x5).f4.f1)))) || (!(((rd_T41 x0 x5).f5) == ((rd_T41 x1 x5).f5)))))))) = true then (some false) else (evenhandedref23_SamePieces.l0 k x0 x1 (wrap64 (x5 + 1)))) else (none)) else (none)) else (some true)
def evenhandedref23_SamePieces.f (k : Nat) (l0 : List (S41)) (l1 : List (S41)) : Option (Bool) := if (l0.length : Int) = (l1.length : Int) then (evenhandedref23_SamePieces.l0 k l0 l1 0) else (some false)
set_option maxHeartbeats 8000000 in
set_option maxRecDepth 100000 in
theorem evenhandedref23_SamePieces.calls (k : Nat) (A0 : Option Addr) (c0 : Nat) (l0 : List (S41)) (A1 : Option Addr) (c1 : Nat) (l1 : List (S41)) (r : Bool) (w : World) (hr0 : Kd.C k41 w A0 l0.length l0) (hc0 : l0.length ≤ c0) (hr1 : Kd.C k41 w A1 l1.length l1) (hc1 : l1.length ≤ c1) (h : evenhandedref23_SamePieces.f k l0 l1 = some r) :
    Calls Try.prog 14 #[.slice A0 l0.length c0, .slice A1 l1.length c1] w fun e w' => e = .returned (.bool r) ∧ Drawn0 w w' := by
  have hu41 := Try.underlying41
  have HR0 := Aside0.mk hr0
  have HC0 := Aside0.mk hc0
  clear hr0 hc0
  have HR1 := Aside0.mk hr1
  have HC1 := Aside0.mk hc1
  clear hr1 hc1
  have H : (if (l0.length : Int) = (l1.length : Int) then (evenhandedref23_SamePieces.l0 k l0 l1 0) else (some false)) = some r := h
  clear h
  by_cases c3 : (l0.length : Int) = (l1.length : Int)
  · rw [if_pos c3] at H
    have c3b0 : ((l0.length : Int) == (l1.length : Int)) = true := beq_iff_eq.mpr c3
    have c3b1 : ((l0.length : Int) != (l1.length : Int)) = false := bne_eq_false_iff_eq.mpr c3
    have c3b2 : (l0.length == l1.length) = true := by first | simpa using c3 | (simp at c3 ⊢; omega)
    clear c3
    have H' := Aside0.mk H
    clear H
    go_enter Try.func14, Try.ntmps14
    go_wp2
    repeat (go_quiet (fail); try go_wp2)
    try simp only [Act.put, List.setIfInBounds_toArray, List.set_cons_succ, List.set_cons_zero]
    go_loopg [5] k (fun kq v5 w' => ∃ (x5_1 : Int), v5 = .int .i64 x5_1 ∧ Aside0 (evenhandedref23_SamePieces.l0 kq l0 l1 x5_1 = some r) ∧ Aside0 (kq ≤ k) ∧ Drawn0 w w')
    case atStart => exact ⟨(0), (by first | rfl | (simp; done) | (simp [*]; done)), H', ⟨Nat.le_refl _⟩, by repeat (first | exact Drawn0.refl _ | apply Drawn0.step)⟩
    case round =>
      clear H'
      try clear c1
      try clear p2
      try clear c3
      try clear c3b0
      try clear c3b1
      try clear c3b2
      obtain ⟨x5_1, rfl, HA, HK1, ⟨m1, rfl⟩⟩ := hrel
      cases gk with
      | zero => exact absurd HA.out (by simp [evenhandedref23_SamePieces.l0])
      | succ k1 =>
        have H := HA.out
        clear HA
        simp only [evenhandedref23_SamePieces.l0] at H
        by_cases c4 : x5_1 < (l0.length : Int)
        · rw [if_pos c4] at H
          have c4b0 : decide (x5_1 < (l0.length : Int)) = true := decide_eq_true c4
          clear c4
          by_cases c5 : 0 ≤ x5_1
          · rw [if_pos c5] at H
            have c5b0 : decide (0 ≤ x5_1) = true := decide_eq_true c5
            clear c5
            by_cases c6 : x5_1 < (l1.length : Int)
            · rw [if_pos c6] at H
              have c6b0 : decide (x5_1 < (l1.length : Int)) = true := decide_eq_true c6
              clear c6
              by_cases c7 : (!(((rd_T41 l0 x5_1).f0) == ((rd_T41 l1 x5_1).f0)) || (!(((rd_T41 l0 x5_1).f1) == ((rd_T41 l1 x5_1).f1)) || (!(((rd_T41 l0 x5_1).f2) == ((rd_T41 l1 x5_1).f2)) || ((!(((rd_T41 l0 x5_1).f3.f0) == ((rd_T41 l1 x5_1).f3.f0)) || (!(((rd_T41 l0 x5_1).f3.f1) == ((rd_T41 l1 x5_1).f3.f1)))) || ((!(((rd_T41 l0 x5_1).f4.f0) == ((rd_T41 l1 x5_1).f4.f0)) || (!(((rd_T41 l0 x5_1).f4.f1) == ((rd_T41 l1 x5_1).f4.f1)))) || (!(((rd_T41 l0 x5_1).f5) == ((rd_T41 l1 x5_1).f5)))))))) = true
              · rw [if_pos c7] at H
                have c7b0 : (!(((rd_T41 l0 x5_1).f0) == ((rd_T41 l1 x5_1).f0)) || (!(((rd_T41 l0 x5_1).f1) == ((rd_T41 l1 x5_1).f1)) || (!(((rd_T41 l0 x5_1).f2) == ((rd_T41 l1 x5_1).f2)) || ((!(((rd_T41 l0 x5_1).f3.f0) == ((rd_T41 l1 x5_1).f3.f0)) || (!(((rd_T41 l0 x5_1).f3.f1) == ((rd_T41 l1 x5_1).f3.f1)))) || ((!(((rd_T41 l0 x5_1).f4.f0) == ((rd_T41 l1 x5_1).f4.f0)) || (!(((rd_T41 l0 x5_1).f4.f1) == ((rd_T41 l1 x5_1).f4.f1)))) || (!(((rd_T41 l0 x5_1).f5) == ((rd_T41 l1 x5_1).f5)))))))) = true := c7
                clear c7
                obtain rfl := Option.some.inj H
                have p369 : 0 ≤ (x5_1 : Int) := of_decide_eq_true (by first | (with_reducible assumption) | assumption)
                have q369 : x5_1 < (l0.length : Int) := of_decide_eq_true (by first | (with_reducible assumption) | assumption)
                obtain ⟨ad369, e369, hx369_0, hx369_1, hx369_2, hx369_3, hx369_4, hx369_5, hx369_6, hx369_7⟩ := at_T41 HR0.out x5_1 p369 q369
                cases e369
                replace p369 := eq_true p369
                replace q369 := eq_true q369
                have p370 : 0 ≤ (x5_1 : Int) := of_decide_eq_true (by first | (with_reducible assumption) | assumption)
                have q370 : x5_1 < (l1.length : Int) := of_decide_eq_true (by first | (with_reducible assumption) | assumption)
                obtain ⟨ad370, e370, hx370_0, hx370_1, hx370_2, hx370_3, hx370_4, hx370_5, hx370_6, hx370_7⟩ := at_T41 HR1.out x5_1 p370 q370
                cases e370
                replace p370 := eq_true p370
                replace q370 := eq_true q370
                go_wp2
                repeat (go_quiet (fail); try go_wp2)
                go_ret
                exact ⟨by first | rfl | (simp; done) | (simp [*]; done), by repeat (first | exact Drawn0.refl _ | apply Drawn0.step)⟩
              · rw [if_neg c7] at H
                have c7b0 : (!(((rd_T41 l0 x5_1).f0) == ((rd_T41 l1 x5_1).f0)) || (!(((rd_T41 l0 x5_1).f1) == ((rd_T41 l1 x5_1).f1)) || (!(((rd_T41 l0 x5_1).f2) == ((rd_T41 l1 x5_1).f2)) || ((!(((rd_T41 l0 x5_1).f3.f0) == ((rd_T41 l1 x5_1).f3.f0)) || (!(((rd_T41 l0 x5_1).f3.f1) == ((rd_T41 l1 x5_1).f3.f1)))) || ((!(((rd_T41 l0 x5_1).f4.f0) == ((rd_T41 l1 x5_1).f4.f0)) || (!(((rd_T41 l0 x5_1).f4.f1) == ((rd_T41 l1 x5_1).f4.f1)))) || (!(((rd_T41 l0 x5_1).f5) == ((rd_T41 l1 x5_1).f5)))))))) = false := by simpa using c7
                clear c7
                have H' := Aside0.mk H
                clear H
                have p369 : 0 ≤ (x5_1 : Int) := of_decide_eq_true (by first | (with_reducible assumption) | assumption)
                have q369 : x5_1 < (l0.length : Int) := of_decide_eq_true (by first | (with_reducible assumption) | assumption)
                obtain ⟨ad369, e369, hx369_0, hx369_1, hx369_2, hx369_3, hx369_4, hx369_5, hx369_6, hx369_7⟩ := at_T41 HR0.out x5_1 p369 q369
                cases e369
                replace p369 := eq_true p369
                replace q369 := eq_true q369
                have p370 : 0 ≤ (x5_1 : Int) := of_decide_eq_true (by first | (with_reducible assumption) | assumption)
                have q370 : x5_1 < (l1.length : Int) := of_decide_eq_true (by first | (with_reducible assumption) | assumption)
                obtain ⟨ad370, e370, hx370_0, hx370_1, hx370_2, hx370_3, hx370_4, hx370_5, hx370_6, hx370_7⟩ := at_T41 HR1.out x5_1 p370 q370
                cases e370
                replace p370 := eq_true p370
                replace q370 := eq_true q370
                go_wp2
                repeat (go_quiet (fail); try go_wp2)
                go_roundg k1
                case measure => have := HK1.out; omega
                case rel => exact ⟨(wrap64 (x5_1 + 1)), (by first | rfl | (simp; done) | (simp [*]; done)), H', ⟨by have := HK1.out; omega⟩, by repeat (first | exact Drawn0.refl _ | apply Drawn0.step)⟩
            · rw [if_neg c6] at H
              exact absurd H (by simp)
          · rw [if_neg c5] at H
            exact absurd H (by simp)
        · rw [if_neg c4] at H
          have c4b0 : decide (x5_1 < (l0.length : Int)) = false := decide_eq_false c4
          clear c4
          obtain rfl := Option.some.inj H
          go_wp2
          repeat (go_quiet (fail); try go_wp2)
          go_ret
          exact ⟨by first | rfl | (simp; done) | (simp [*]; done), by repeat (first | exact Drawn0.refl _ | apply Drawn0.step)⟩
  · rw [if_neg c3] at H
    have c3b0 : ((l0.length : Int) == (l1.length : Int)) = false := beq_eq_false_iff_ne.mpr c3
    have c3b1 : ((l0.length : Int) != (l1.length : Int)) = true := bne_iff_ne.mpr c3
    have c3b2 : (l0.length == l1.length) = false := by first | simpa using c3 | (simp at c3 ⊢; omega)
    obtain rfl := Option.some.inj H
    go_enter Try.func14, Try.ntmps14
    go_wp2
    repeat (go_quiet (fail); try go_wp2)
    go_ret
    exact ⟨by first | rfl | (simp; done) | (simp [*]; done), by repeat (first | exact Drawn0.refl _ | apply Drawn0.step)⟩

-- NOT PRINTED: function 3 (evenhandedlaw18_WrapLays)

-- NOT PRINTED: function 4 (evenhandedlaw18_WrapFits)

-- NOT PRINTED: function 5 (evenhandedlaw18_WrapFull)

-- NOT PRINTED: function 6 (evenhandedlaw18_WrapOrder)

end Go.Proofs.Ytkgafogkeaaniaa.PW
