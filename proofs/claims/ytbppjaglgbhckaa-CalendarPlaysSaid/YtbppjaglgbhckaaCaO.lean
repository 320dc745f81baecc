/- Package calendar: slices.Delete from the front. No condition. -/
import Derived.Test.YtbppjaglgbhckaaCaN
set_option linter.unusedVariables false
set_option linter.unusedSimpArgs false
namespace Go.Proofs.Ytbppjaglgbhckaa.CaO
open Go.RowKit Go.Shelf Go.Lib Go.Proofs.Ytbppjaglgbhckaa.Kit Go.Proofs.Ytbppjaglgbhckaa.CaA Go.Proofs.Ytbppjaglgbhckaa.CaB Go.Proofs.Ytbppjaglgbhckaa.CaC Go.Proofs.Ytbppjaglgbhckaa.CaD Go.Proofs.Ytbppjaglgbhckaa.CaF Go.Proofs.Ytbppjaglgbhckaa.CaJ Go.Proofs.Ytbppjaglgbhckaa.CaK Go.Proofs.Ytbppjaglgbhckaa.CaL
open Go.Proofs.YtbppjaglgbhckaaW.PrintWords (setCells_row setCells_far setCells_same)
theorem step_run {ops : Array Oper} {o : Oper} {a : Act} {w : World} {K : Act → World → Prop} {Q : Exit → Act → World → Prop} {E : Prop}
    (hg : o.guard = none) (v' : Value) (w' : World) (hr : (execOp a.eval o).run Try.prog w = .ok (.value v') w') (hK : K (a.put o.dst v') w') :
    if Region.wanted o (yielded ops a.tmps) = true then Oper.wp Try.prog o a w K Q else E := by
  have hw : Region.wanted o (yielded ops a.tmps) = true := by simp [Region.wanted, hg]
  rw [if_pos hw]
  unfold Oper.wp
  rw [hr]
  exact hK
/-- Written behind. -/
theorem Row.past {w : World} {B g n cap : Nat} {t : TypeId} {ys : List It} (h : Row w B t (.slice (some ⟨g, 0, none⟩) n cap) ys) (o : Nat) (vs : List Value) (ho : n * 2 ≤ o) (hf : o + vs.length ≤ cap * 2) : Row (w.setCells g o vs) B t (.slice (some ⟨g, 0, none⟩) n cap) ys := by
  obtain ⟨hl, ⟨h0, _⟩ | ⟨g', cap', cur, hv, hB, hg, hn, hm, hs, ht⟩⟩ := h
  · simp at h0
  · simp at hv
    obtain ⟨rfl, rfl, rfl⟩ := hv
    obtain ⟨c1, h1, h2, h3⟩ := setCells_row vs o w cur hg (by omega)
    have hcl : cur.toList.length = cap * 2 := by rw [Array.length_toList]; exact hs
    refine ⟨by rw [flat_len], .inr ⟨g, cap, c1, rfl, hB, h1, hn, hm, by rw [h2, hs], ?_⟩⟩
    rw [h3, List.append_assoc, List.take_append_of_le_length (by rw [List.length_take]; omega), take_take _ ho, ht]
/-- append(s[:0], s[k:]...): moved to the front. -/
theorem run_front {w : World} {B g n cap : Nat} {xs : List It} (ty : TypeId) (h : Row w B 44 (.slice (some ⟨g, 0, none⟩) n cap) xs) (k : Nat) (hk : k ≤ xs.length) (ad : Addr) (c : Nat) (had : k < n → ad = ⟨g, k * 2, none⟩) :
    ∃ w', (Builtin.append_ #[40, 40] ty #[.slice (some ⟨g, 0, none⟩) 0 cap, .slice (some ad) (n - k) c]).run Try.prog w = .ok (.slice (some ⟨g, 0, none⟩) (n - k) cap) w' ∧
      Row w' B 44 (.slice (some ⟨g, 0, none⟩) (n - k) cap) (xs.drop k) ∧ Chg w w' (fun k => k = g) := by
  obtain ⟨rfl, hnc, hB, hgl, hm, cur, hg, hcs, hr⟩ := info_row h
  obtain ⟨i, hi, hz, hsz, hb⟩ := info_it
  have hdl : (xs.drop k).length = xs.length - k := List.length_drop
  have hfl : (flat (xs.drop k)).length = (xs.length - k) * i.size := by rw [flat_len, hdl, hsz]
  have hget := flat_get (xs.drop k) w ad (fun j x hj => by
    have hjl := (List.getElem?_eq_some_iff.1 hj).1
    rw [hdl] at hjl
    rw [had (by omega), Addr.add_lit, Addr.add_lit]
    rw [List.getElem?_drop] at hj
    have h3 := hr (k + j) x hj
    rw [Nat.add_mul] at h3
    simpa [Nat.add_assoc] using h3)
  have hrun := run_append_room (P := Try.prog) w 40 ty 44 i Try.underlying40 hi g 0 cap cur hg ad (xs.length - k) c (flat (xs.drop k)) hfl hget (flat_one _) (by omega) (by rw [hfl, hsz, hcs]; omega)
  simp only [Nat.zero_add, Nat.zero_mul] at hrun
  refine ⟨_, hrun, ⟨by rw [flat_len], .inr ⟨g, cap, _, by rw [hdl], hB, setRow_heap w g cur _ _ _ hg, by rw [hdl]; omega, hm, ?_, ?_⟩⟩, ⟨rfl, rfl, rfl, by simp, fun q _ hq => setRow_other w g q _ hq⟩⟩
  · simp only [List.size_toArray, List.length_append, List.length_take, List.length_drop, Array.length_toList, hfl, hsz, hcs]
    omega
  · have e : (xs.drop k).length * 2 = (flat (xs.drop k)).length := by rw [flat_len]
    simp only [List.take_zero, List.nil_append, e]
    exact List.take_left
set_option maxHeartbeats 4000000 in
set_option maxRecDepth 100000 in
theorem del_none (w : World) (a0 : Option Addr) (n c0 : Nat) (hc : n ≤ c0) (hl : n ≤ 1000) :
    Calls Try.prog 17 #[.slice a0 n c0, .int .i64 0, .int .i64 0] w fun r w' => r = .returned (.slice a0 n c0) ∧ Below w.heap.size w w' := by
  have h1 : (n : Int) ≤ 1000 := by omega
  have h2 : (n : Int) ≤ c0 := by omega
  clear hc hl
  go_enter Try.func17, Try.ntmps17
  go_wp2
  go_ret
  exact ⟨rfl, by (repeat (with_reducible first | exact Below.refl _ _ | apply below_drewN | apply below_drew | apply below_alloc))⟩
set_option maxHeartbeats 4000000 in
set_option maxRecDepth 100000 in
theorem del_some (w : World) (B g m k cap : Nat) (xs : List It) (h : Row w B 44 (.slice (some ⟨g, 0, none⟩) (m + k) cap) xs) (hl : m + k ≤ 1000) (h0 : 0 < k) :
    Calls Try.prog 17 #[.slice (some ⟨g, 0, none⟩) (m + k) cap, .int .i64 0, .int .i64 k] w fun r w' => r = .returned (.slice (some ⟨g, 0, none⟩) m cap) ∧ Row w' B 44 (.slice (some ⟨g, 0, none⟩) m cap) (xs.drop k) ∧ Chg w w' (fun k => k = g) := by
  obtain ⟨hn, hnc, -, -, -, -⟩ := info_row h
  have hl1 : (m : Int) + k ≤ 1000 := by omega
  have hk0 : (0 : Int) < k := by omega
  have hk00 : (0 : Int) ≤ k := by omega
  have hk2 : ¬ ((0 : Int) = k) := by omega
  have hc1 : (m : Int) + k ≤ cap := by omega
  have hc2 : (k : Int) ≤ cap := by omega
  have hc3 : ¬ (cap = m) := by omega
  have hm0 : (0 : Int) ≤ m := by omega
  have hk3 : (k : Int) ≤ (m : Int) + k := by omega
  have hm3 : (m : Int) ≤ (m : Int) + k := by omega
  obtain ⟨ad, had⟩ : ∃ ad, (if cap = k then (some ⟨g, 0, none⟩ : Option Addr) else some ⟨g, k * 2, none⟩) = some ad := by split <;> exact ⟨_, rfl⟩
  obtain ⟨w1, hrun, hrow, hchg⟩ := run_front (w := w.drew) 40 (Row.same h rfl) k (by omega) ad (cap - k) (fun hk => by
    rw [if_neg (by omega)] at had
    exact (Option.some.inj had).symm)
  rw [Nat.add_sub_cancel] at hrun hrow
  obtain ⟨-, -, -, hg1, -, c1, hc1', hs1, -⟩ := info_row hrow
  have HCL : Side (∀ ty c, ∃ vs : List Value, vs.length = k * 2 ∧ (Builtin.clear_ #[40] ty #[.slice (some ⟨g, m * 2, none⟩) k c]).run Try.prog w1 = .ok (.tuple #[]) (w1.setCells g (m * 2) vs)) := ⟨fun ty c =>
    run_clear w1 ty g (m * 2) k c (fun j hj => by rw [cell_of_row w1 g _ c1 _ (0, 0) hc1', Array.getElem?_eq_getElem (by rw [hs1]; omega)]; rfl) (fun j hj => by simp [World.frozen?, hc1'])⟩
  obtain ⟨vs, hvl, hclr⟩ := HCL.out 0 (cap - m)
  have HFIN : Side (Row (w1.setCells g (m * 2) vs) B 44 (.slice (some ⟨g, 0, none⟩) m cap) (xs.drop k) ∧ Chg w (w1.setCells g (m * 2) vs) (fun k => k = g)) := ⟨Row.past hrow (m * 2) vs (Nat.le_refl _) (by rw [hvl]; omega), by
    have X0 : Chg w w.drew (fun k => k = g) := ⟨rfl, rfl, rfl, Nat.le_refl _, fun _ _ _ => rfl⟩
    exact (X0.trans hchg (fun _ _ h => h)).trans (chg_set w1 g (m * 2) vs) (fun _ _ h => h)⟩
  have HRUN := Side.mk hrun
  have HCLR := Side.mk hclr
  have HAD := Side.mk had
  clear h hn h0 hl hnc had hrun hrow hchg hg1 hc1' hs1 HCL hvl hclr
  go_enter Try.func17, Try.ntmps17
  go_upto_region 5 with (fail)
  have mixed : Try.prog.follows Departure.mixedOrders = true := by kernel_rfl
  have H2 := HRUN.out
  have H3 := HAD.out
  go_region_law_o (refine step_run rfl _ _ (exec_app rfl (by simp [Act.eval, Act.put]) (by simp [Act.eval, Act.put, H3]) H2) ?_)
  clear H2 H3
  go_wp2_with (simp only [HCLR.out])
  go_ret
  exact ⟨rfl, HFIN.out⟩
/-- slices.Delete(s, 0, k). -/
theorem Cut_at (w : World) (B : Nat) (v : Value) (xs : List It) (h : Row w B 44 v xs) (hl : xs.length ≤ 1000) (k : Nat) (hk : k ≤ xs.length) :
    Calls Try.prog 17 #[v, .int .i64 0, .int .i64 k] w fun r w' => ∃ v', r = .returned v' ∧ Row w' B 44 v' (xs.drop k) ∧ Chg w w' (fun k => some k = v.ownBlock) ∧ v'.ownBlock = v.ownBlock := by
  obtain ⟨a0, c0, hv, hc⟩ : ∃ a c, v = .slice a xs.length c ∧ xs.length ≤ c := by
    rcases h.read with ⟨rfl, rfl⟩ | ⟨g, cap, rfl, _, _, hn, _⟩
    · exact ⟨none, 0, rfl, Nat.le_refl _⟩
    · exact ⟨_, cap, rfl, hn⟩
  by_cases h0 : k = 0
  · subst h0
    subst hv
    refine (del_none w a0 xs.length c0 hc hl).mono ?_
    rintro r w' ⟨rfl, hb⟩
    exact ⟨_, rfl, Row.below h hb, Chg.of_below hb, rfl⟩
  · rcases h.read with ⟨_, rfl⟩ | ⟨g, cap, rfl, _, _, hn, _⟩
    · simp at hk; omega
    · obtain ⟨m, hm⟩ : ∃ m, xs.length = m + k := ⟨xs.length - k, by omega⟩
      rw [hm] at h ⊢
      refine (del_some w B g m k cap xs h (by omega) (by omega)).mono ?_
      rintro r w' ⟨rfl, hr, hc⟩
      exact ⟨_, rfl, hr, ⟨hc.os, hc.tape, hc.output, hc.size, fun q h1 h2 => hc.block q h1 (fun e => h2 (by rw [e]; rfl))⟩, rfl⟩
end Go.Proofs.Ytbppjaglgbhckaa.CaO
