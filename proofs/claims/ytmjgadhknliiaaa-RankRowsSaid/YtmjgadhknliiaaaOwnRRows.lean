/- The law evenhandedlaw4.RankRows: the subtasks of one job go in their order, whatever the weight: a walk of the law's own code. No condition. -/
import Derived.Test.YtmjgadhknliiaaaOwnOrders
set_option linter.unusedVariables false
set_option linter.unusedSimpArgs false
namespace Go.Proofs.Ytmjgadhknliiaaa.OwnRRows
open Go.RowKit Go.Proofs.Ytmjgadhknliiaaa.Kit Go.Proofs.Ytmjgadhknliiaaa.Cmp Go.Proofs.Ytmjgadhknliiaaa.Win Go.Proofs.Ytmjgadhknliiaaa.Rank EvPlain Go.Proofs.Ytmjgadhknliiaaa.OwnOrders
theorem of_T {e p i r : Int} (h : T e p i) (r0 : 0 ≤ r) (r1 : r ≤ 65535) : ofq e p i r 3 = ⟨r + dl e p i, bit e p i, if p ≤ 2 * e ∧ e < p then r + grp e p i else 0, 3⟩ := by
  have h1 := h.dl_le; have pm := h.pm
  unfold ofq
  rw [if_pos h, dead_yes h, Kit.wr (x := r + dl e p i) (by omega) (by omega)]
  have hg : group e p i = if p ≤ 2 * e ∧ e < p then grp e p i else 0 := by
    unfold group
    by_cases hl : p ≤ 2 * e ∧ e < p
    · rw [if_pos ⟨h, hl⟩, if_pos hl]
    · rw [if_neg (fun x => hl x.2), if_neg hl]
  rw [hg]
  by_cases hl : p ≤ 2 * e ∧ e < p
  · have h2 := h.grp_le hl.2
    rw [if_pos hl, if_pos (by omega), Kit.wr (x := r + grp e p i) (by omega) (by omega), if_pos hl]
  · rw [if_neg hl, if_neg (by omega), if_neg hl]
theorem dl_lt {e p i : Int} (h : T e p i) (h' : T e p (i + 1)) : dl e p i < dl e p (i + 1) := by
  have s := h.dl_spec; have s' := h'.dl_spec; have ep := h.ep
  rw [Int.sub_mul, Int.one_mul] at s s'
  rw [Int.add_mul, Int.one_mul] at s'
  exact lt_of_mul_lt' _ _ e h.e1 (by omega)
theorem grp_mono {e p i : Int} (h : T e p i) (h' : T e p (i + 1)) (hlt : e < p) : grp e p i ≤ grp e p (i + 1) := by
  have hd := dl_lt h h'
  have e1 := h.hol_eq; have e2 := h'.hol_eq
  have g := h.grp_spec hlt; have g' := h'.grp_spec hlt
  have hm : hol e p i * p ≤ hol e p (i + 1) * p := Int.mul_le_mul_of_nonneg_right (by omega) (by have := h.e1; omega)
  have : grp e p i - 1 < grp e p (i + 1) := lt_of_mul_lt' _ _ (p - e) (by omega) (by omega)
  omega
/-- What a round asks of two ranks one behind another. -/
theorem step_facts {e p i r : Int} (h : T e p i) (h' : T e p (i + 1)) (r0 : 0 ≤ r) (r1 : r ≤ 65535) :
    decide (rcmp (ofq e p i r 3) (ofq e p (i + 1) r 3) < 0) = true ∧ decide (rcmp (ofq e p (i + 1) r 3) (ofq e p i r 3) < 0) = false ∧ (ofq e p i r 3).d < (ofq e p (i + 1) r 3).d ∧ (ofq e p i r 3).g ≤ (ofq e p (i + 1) r 3).g := by
  have hd := dl_lt h h'
  rw [rcmp_less, rcmp_less, of_T h r0 r1, of_T h' r0 r1]
  unfold rless
  dsimp only
  refine ⟨by rw [if_pos (by omega)]; exact decide_eq_true (by omega), by rw [if_pos (by omega)]; exact decide_eq_false (by omega), by omega, ?_⟩
  by_cases hl : p ≤ 2 * e ∧ e < p
  · have := grp_mono h h' hl.2
    rw [if_pos hl, if_pos hl]; omega
  · rw [if_neg hl, if_neg hl]; omega
theorem last_facts {e p r : Int} (h : T e p e) (r0 : 0 ≤ r) (r1 : r ≤ 65535) : (ofq e p e r 3).d = r + p ∧ (ofq e p e r 3).b = 0 := by
  rw [of_T h r0 r1]
  refine ⟨by show r + dl e p e = r + p; rw [T.last h.e1], ?_⟩
  show bit e p e = 0
  unfold bit
  rw [if_pos h, if_pos (Int.mul_emod_right _ _)]
set_option maxHeartbeats 2000000 in
set_option maxRecDepth 100000 in
theorem walk (e p r : Int) (w : World) (w0 : (Lit.int .i64 e).wf = true) (w1 : (Lit.int .i64 p).wf = true) (w2 : (Lit.int .u16 r).wf = true) :
    Calls Try.prog 5 #[.int .i64 e, .int .i64 p, .int .u16 r] w fun x w' => x = .returned (.bool true) ∧ Below w.heap.size w w' := by
  obtain ⟨r0, r1⟩ := isu16 w2
  have AW := fun w => Side.mk (awake_at w)
  have TM := fun w => Side.mk (TaskMay_at e p w)
  by_cases ht : 1 ≤ e ∧ e ≤ p ∧ p ≤ 1048575
  · rw [decide_eq_true ht] at TM
    by_cases hb : 2000 < e
    · have b1 : decide (2000 < e) = true := decide_eq_true hb
      clear ht hb w0 w1 w2 r0 r1
      go_enter Try.func5, Try.ntmps5
      go_wp2_with fail
      refine (AW _).out.mono ?_
      rintro e w1 ⟨rfl, h1⟩
      go_wp2_with fail
      refine (TM _).out.mono ?_
      rintro e w2 ⟨rfl, n, rfl⟩
      go_wp2_with fail
      go_ret
      exact ⟨rfl, by (repeat (with_reducible first | exact h1 | apply below_drewN | apply below_drew | apply below_alloc))⟩
    · have b1 : decide (2000 < e) = false := decide_eq_false hb
      have E := Side.mk (And.intro ht (And.intro r0 r1))
      have hr : wrap64 r = r := Kit.wr (by omega) (by omega)
      have OF := fun i w => Side.mk (Of_at e p i r 3 w)
      clear ht hb w0 w1 w2 r0 r1
      go_enter Try.func5, Try.ntmps5
      go_wp2_with fail
      refine (AW _).out.mono ?_
      rintro x w1 ⟨rfl, h1⟩
      go_wp2_with fail
      refine (TM _).out.mono ?_
      rintro x w2 ⟨rfl, n, rfl⟩
      go_wp2_with fail
      refine (OF 1 _).out.mono ?_
      rintro x wq ⟨rfl, hq⟩
      have gq := Side.mk (below_then (below_drewN h1 n) (below_drewN h1 n).size hq)
      clear h1 hq
      go_wp2_with fail
      go_loopw [8] (fun v8 wr => ∃ i : Int, v8 = .int .i64 i ∧ Side (2 ≤ i ∧ i ≤ e + 1) ∧ Side (wr.heap[wq.heap.size]? = some (.cells #[.int .i64 (ofq e p (i - 1) r 3).d, .int .i64 (ofq e p (i - 1) r 3).b, .int .i64 (ofq e p (i - 1) r 3).g, .int .i64 (ofq e p (i - 1) r 3).i] 26 (0, 0))) ∧ Side (Below w.heap.size w wr)) (fun v8 _ => (e + 1 - intOf v8).toNat)
      case atStart =>
        refine ⟨2, rfl, ⟨by have := E.out; omega⟩, ⟨?_⟩, ⟨?_⟩⟩
        · exact heap_alloc_new _ _
        · exact gq.out.alloc gq.out.size _
      case round =>
        obtain ⟨i, rfl, HI, HK, HB⟩ := hrel
        have hz : wq.heap.size < wr.heap.size := (Array.getElem?_eq_some_iff.1 HK.out).1
        have k0 : wr.cell? ⟨wq.heap.size, 0, none⟩ = some (.int .i64 (ofq e p (i - 1) r 3).d) := cell_of_row wr _ 0 _ _ (0, 0) HK.out
        have k1 : wr.cell? ⟨wq.heap.size, 1, none⟩ = some (.int .i64 (ofq e p (i - 1) r 3).b) := cell_of_row wr _ 1 _ _ (0, 0) HK.out
        have k2 : wr.cell? ⟨wq.heap.size, 2, none⟩ = some (.int .i64 (ofq e p (i - 1) r 3).g) := cell_of_row wr _ 2 _ _ (0, 0) HK.out
        have k3 : wr.cell? ⟨wq.heap.size, 3, none⟩ = some (.int .i64 (ofq e p (i - 1) r 3).i) := cell_of_row wr _ 3 _ _ (0, 0) HK.out
        by_cases hi : i ≤ e
        · have c1 : decide (i ≤ e) = true := decide_eq_true hi
          have hs := step_facts (r := r) (i := i - 1) ⟨E.out.1.1, E.out.1.2.1, E.out.1.2.2, by have := HI.out; omega, by omega⟩ ⟨E.out.1.1, E.out.1.2.1, E.out.1.2.2, by have := HI.out; omega, by omega⟩ E.out.2.1 E.out.2.2
          rw [show i - 1 + 1 = i by omega] at hs
          have hi1 : wrap64 (i + 1) = i + 1 := Kit.wr (by have := HI.out; omega) (by have := E.out; omega)
          have LL := fun w => Less_at (ofq e p (i - 1) r 3) (ofq e p i r 3) w
          have LR := fun w => Less_at (ofq e p i r 3) (ofq e p (i - 1) r 3) w
          rw [hs.1] at LL
          rw [hs.2.1] at LR
          have HS : Side (ofq e p (i + 1 - 1) r 3 = ofq e p i r 3) := ⟨by rw [show i + 1 - 1 = i by omega]⟩
          have OI := fun w => (OF i w).out
          have c2 : decide ((ofq e p i r 3).d ≤ (ofq e p (i - 1) r 3).d) = false := decide_eq_false (by omega)
          have c3 : decide ((ofq e p i r 3).g < (ofq e p (i - 1) r 3).g) = false := decide_eq_false (by omega)
          clear hs
          generalize ofq e p (i - 1) r 3 = q at *
          obtain ⟨qd, qb, qg, qi⟩ := q
          generalize ofq e p i r 3 = s at *
          obtain ⟨sd, sb, sg, si⟩ := s
          dsimp only at c2 c3 k0 k1 k2 k3
          have LL' := fun w => Side.mk (LL w)
          have LR' := fun w => Side.mk (LR w)
          have OI' := fun w => Side.mk (OI w)
          have F := Side.mk (And.intro (show wr.frozen? ⟨wq.heap.size, 0, none⟩ = false by simp [World.frozen?, HK.out]) hi)
          have f0 : ∀ j, wr.frozen? ⟨wq.heap.size, j, none⟩ = false := fun j => by simp [World.frozen?, HK.out]
          have F0 := Side.mk f0
          clear LL LR OI OF hi f0 F
          go_wp2_with fail
          refine (OI' _).out.mono ?_
          rintro x wn ⟨rfl, hn⟩
          have gn := Side.mk (below_then HB.out HB.out.size hn)
          have Hn := Side.mk (hn.block _ hz)
          obtain ⟨hcn, hfn⟩ := bcell hn
          have zn := hn.size
          have n0 : wn.cell? ⟨wq.heap.size, 0, none⟩ = some (.int .i64 qd) := (hcn _ _ hz).trans k0
          have n1 : wn.cell? ⟨wq.heap.size, 1, none⟩ = some (.int .i64 qb) := (hcn _ _ hz).trans k1
          have n2 : wn.cell? ⟨wq.heap.size, 2, none⟩ = some (.int .i64 qg) := (hcn _ _ hz).trans k2
          have n3 : wn.cell? ⟨wq.heap.size, 3, none⟩ = some (.int .i64 qi) := (hcn _ _ hz).trans k3
          have hzn : wq.heap.size < wn.heap.size := by omega
          clear k0 k1 k2 k3 hcn hfn hn zn
          go_wp2_with fail
          refine (LL' _).out.mono ?_
          rintro x w3 ⟨rfl, h3⟩
          have z3 : wn.heap.size < w3.heap.size := by have := h3.size; simp at this; omega
          have G3 := Side.mk (below_then (gn.out.alloc gn.out.size _) (by have := gn.out.size; simp; omega) h3)
          have H3 := Side.mk (h3.block wq.heap.size (by simp; omega))
          obtain ⟨hc3, hf3⟩ := bcell h3
          have m0 : w3.cell? ⟨wq.heap.size, 0, none⟩ = some (.int .i64 qd) := (hc3 _ _ (by simp; omega)).trans (by go_simp)
          have m1 : w3.cell? ⟨wq.heap.size, 1, none⟩ = some (.int .i64 qb) := (hc3 _ _ (by simp; omega)).trans (by go_simp)
          have m2 : w3.cell? ⟨wq.heap.size, 2, none⟩ = some (.int .i64 qg) := (hc3 _ _ (by simp; omega)).trans (by go_simp)
          have m3 : w3.cell? ⟨wq.heap.size, 3, none⟩ = some (.int .i64 qi) := (hc3 _ _ (by simp; omega)).trans (by go_simp)
          have o0 : w3.cell? ⟨wn.heap.size, 0, none⟩ = some (.int .i64 sd) := (hc3 _ _ (by simp)).trans (by go_simp)
          have o1 : w3.cell? ⟨wn.heap.size, 1, none⟩ = some (.int .i64 sb) := (hc3 _ _ (by simp)).trans (by go_simp)
          have o2 : w3.cell? ⟨wn.heap.size, 2, none⟩ = some (.int .i64 sg) := (hc3 _ _ (by simp)).trans (by go_simp)
          have o3 : w3.cell? ⟨wn.heap.size, 3, none⟩ = some (.int .i64 si) := (hc3 _ _ (by simp)).trans (by go_simp)
          have hz3 : wq.heap.size < w3.heap.size := by omega
          have Hw3 : Side (w3.heap[wq.heap.size]? = wr.heap[wq.heap.size]?) := ⟨H3.out.trans ((Below.heap_alloc _ _ _ hzn).trans Hn.out)⟩
          clear n0 n1 n2 n3 hc3 hf3 h3 H3 Hn gn
          go_wp2_with fail
          refine (LR' _).out.mono ?_
          rintro x w4 ⟨rfl, h4⟩
          have G4 := Side.mk (below_then G3.out G3.out.size h4)
          have H4 : Side (w4.heap[wq.heap.size]? = wr.heap[wq.heap.size]?) := ⟨(h4.block _ hz3).trans Hw3.out⟩
          obtain ⟨hc4, hf4⟩ := bcell h4
          have u0 : w4.cell? ⟨wq.heap.size, 0, none⟩ = some (.int .i64 qd) := (hc4 _ _ hz3).trans m0
          have u1 : w4.cell? ⟨wq.heap.size, 1, none⟩ = some (.int .i64 qb) := (hc4 _ _ hz3).trans m1
          have u2 : w4.cell? ⟨wq.heap.size, 2, none⟩ = some (.int .i64 qg) := (hc4 _ _ hz3).trans m2
          have u3 : w4.cell? ⟨wq.heap.size, 3, none⟩ = some (.int .i64 qi) := (hc4 _ _ hz3).trans m3
          have x0 : w4.cell? ⟨wn.heap.size, 0, none⟩ = some (.int .i64 sd) := (hc4 _ _ z3).trans o0
          have x1 : w4.cell? ⟨wn.heap.size, 1, none⟩ = some (.int .i64 sb) := (hc4 _ _ z3).trans o1
          have x2 : w4.cell? ⟨wn.heap.size, 2, none⟩ = some (.int .i64 sg) := (hc4 _ _ z3).trans o2
          have x3 : w4.cell? ⟨wn.heap.size, 3, none⟩ = some (.int .i64 si) := (hc4 _ _ z3).trans o3
          have ff : ∀ j, w4.frozen? ⟨wq.heap.size, j, none⟩ = false := fun j => by simp [World.frozen?, H4.out, HK.out]
          have f0 := ff 0; have f1 := ff 1; have f2 := ff 2; have f3 := ff 3
          clear m0 m1 m2 m3 o0 o1 o2 o3 hc4 hf4 h4 ff Hw3 G3 z3
          go_wp2_with fail
          go_roundw
          case rel =>
            refine ⟨i + 1, by rw [hi1], ⟨by have := HI.out; have := of_decide_eq_true c1; omega⟩, ⟨?_⟩, ⟨?_⟩⟩
            · rw [HS.out]
              exact (blk_set (blk_set (blk_set (blk_set (H4.out.trans HK.out) 0 _) 1 _) 2 _) 3 _)
            · have hg : w.heap.size ≤ wq.heap.size := gq.out.size
              exact (((G4.out.setCell hg _).setCell hg _).setCell hg _).setCell hg _
          case measure =>
            rw [hi1]
            have := of_decide_eq_true c1
            show (e + 1 - (i + 1)).toNat < (e + 1 - i).toNat
            omega
        · have c1 : decide (i ≤ e) = false := decide_eq_false hi
          have hie : i - 1 = e := by have := HI.out; omega
          rw [hie] at k0 k1 k2 k3
          have L := last_facts (r := r) ⟨E.out.1.1, E.out.1.2.1, E.out.1.2.2, E.out.1.1, by omega⟩ E.out.2.1 E.out.2.2
          rw [L.1] at k0
          rw [L.2] at k1
          have hw : wrap64 (r + p) = r + p := Kit.wr (by have := E.out; omega) (by have := E.out; omega)
          clear L hie hi HK
          go_wp2
          go_ret
          exact ⟨by simp, by (repeat (with_reducible first | exact HB.out | apply below_drewN | apply below_drew | apply below_alloc))⟩
  · rw [decide_eq_false ht] at TM
    clear ht w0 w1 w2 r0 r1
    go_enter Try.func5, Try.ntmps5
    go_wp2_with fail
    refine (AW _).out.mono ?_
    rintro e w1 ⟨rfl, h1⟩
    go_wp2_with fail
    refine (TM _).out.mono ?_
    rintro e w2 ⟨rfl, n, rfl⟩
    go_wp2_with fail
    go_ret
    exact ⟨rfl, by (repeat (with_reducible first | exact h1 | apply below_drewN | apply below_drew | apply below_alloc))⟩
end Go.Proofs.Ytmjgadhknliiaaa.OwnRRows
