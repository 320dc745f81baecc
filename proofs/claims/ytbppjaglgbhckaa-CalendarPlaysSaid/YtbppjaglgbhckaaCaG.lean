/- Package calendar, seventh text: slices.DeleteFunc over those that need nothing more. No condition. -/
import Derived.Test.YtbppjaglgbhckaaCaF
set_option linter.unusedVariables false
set_option linter.unusedSimpArgs false
namespace Go.Proofs.Ytbppjaglgbhckaa.CaG
open Go.RowKit Go.Proofs.Ytbppjaglgbhckaa.Kit Go.Proofs.Ytbppjaglgbhckaa.CaA Go.Proofs.Ytbppjaglgbhckaa.CaB Go.Proofs.Ytbppjaglgbhckaa.CaC Go.Proofs.Ytbppjaglgbhckaa.CaD Go.Proofs.Ytbppjaglgbhckaa.CaF
def dn (id : Int) (x : It) : Bool := x.2 == id
theorem idx_neg (p : It → Bool) : ∀ xs : List It, idx p xs = -1 → ∀ x ∈ xs, p x = false
  | [], _ => by simp
  | y :: r, h => by
    unfold idx at h
    have hg := idx_ge p r
    split at h
    · omega
    · rename_i hy
      split at h
      · rename_i hr
        intro x hx
        rcases List.mem_cons.1 hx with rfl | hx
        · simpa using hy
        · exact idx_neg p r hr x hx
      · omega
theorem idx_pos (p : It → Bool) : ∀ xs : List It, idx p xs ≠ -1 → ∃ (k : Nat) (y : It), idx p xs = k ∧ xs[k]? = some y ∧ p y = true ∧ ∀ (j : Nat) (x : It), j < k → xs[j]? = some x → p x = false
  | [], h => absurd rfl h
  | y :: r, h => by
    by_cases hy : p y = true
    · exact ⟨0, y, by unfold idx; rw [if_pos hy]; rfl, rfl, hy, fun j x hj => by omega⟩
    · have hn : idx p r ≠ -1 := fun e => h (by unfold idx; rw [if_neg hy, if_pos e])
      obtain ⟨k, z, h1, h2, h3, h4⟩ := idx_pos p r hn
      refine ⟨k + 1, z, ?_, by simpa using h2, h3, fun j x hj hx => ?_⟩
      · unfold idx; rw [if_neg hy, if_neg hn, h1]; simp
      · rcases j with _ | j
        · simp at hx; subst hx; simpa using hy
        · exact h4 j x (by omega) (by simpa using hx)
def left (id : Int) (xs : List It) : List It := xs.filter (fun x => !dn id x)
/-- Where the walk over the row stands: i kept of the first j; behind j all as it was. -/
structure At (id : Int) (xs ys : List It) (i j : Nat) : Prop where
  len : ys.length = xs.length
  lt : i < j
  le : j ≤ xs.length
  kept : ys.take i = left id (xs.take j)
  rest : ∀ m : Nat, j ≤ m → ys[m]? = xs[m]?
theorem left_step (id : Int) (xs : List It) (j : Nat) (x : It) (hj : xs[j]? = some x) : left id (xs.take (j + 1)) = left id (xs.take j) ++ (if dn id x = true then [] else [x]) := by
  obtain ⟨hl, hx⟩ := List.getElem?_eq_some_iff.1 hj
  unfold left
  rw [List.take_succ_eq_append_getElem hl, List.filter_append, hx]
  cases hd : dn id x <;> simp [hd]
theorem At.start (id : Int) (xs : List It) (k : Nat) (y : It) (h1 : xs[k]? = some y) (h2 : dn id y = true) (h3 : ∀ (j : Nat) (x : It), j < k → xs[j]? = some x → dn id x = false) : At id xs xs k (k + 1) := by
  have hl := (List.getElem?_eq_some_iff.1 h1).1
  refine ⟨rfl, by omega, hl, ?_, fun _ _ => rfl⟩
  rw [left_step id xs k y h1, if_pos h2, List.append_nil]
  unfold left
  rw [List.filter_eq_self.2]
  intro x hx
  obtain ⟨j, hj, rfl⟩ := List.getElem_of_mem hx
  rw [List.length_take] at hj
  rw [List.getElem_take]
  rw [h3 j _ (by omega) (List.getElem?_eq_getElem (by omega))]
  rfl
theorem At.skip {id : Int} {xs ys : List It} {i j : Nat} (h : At id xs ys i j) (x : It) (hx : xs[j]? = some x) (hd : dn id x = true) : At id xs ys i (j + 1) := by
  have hl := (List.getElem?_eq_some_iff.1 hx).1
  exact ⟨h.len, by have := h.lt; omega, hl, by rw [left_step id xs j x hx, if_pos hd, List.append_nil]; exact h.kept, fun m hm => h.rest m (by omega)⟩
theorem At.keep {id : Int} {xs ys : List It} {i j : Nat} (h : At id xs ys i j) (x : It) (hx : xs[j]? = some x) (hd : dn id x = false) : At id xs (ys.set i x) (i + 1) (j + 1) := by
  have hl := (List.getElem?_eq_some_iff.1 hx).1
  have h1 := h.lt
  have h2 := h.len
  refine ⟨by rw [List.length_set]; exact h.len, by omega, hl, ?_, fun m hm => ?_⟩
  · rw [left_step id xs j x hx, if_neg (by rw [hd]; decide), ← h.kept]
    rw [List.take_succ_eq_append_getElem (by rw [List.length_set]; omega), List.take_set_of_le (by omega), List.getElem_set_self]
  · rw [List.getElem?_set_ne (by omega)]
    exact h.rest m (by omega)
theorem At.fin {id : Int} {xs ys : List It} {i : Nat} (h : At id xs ys i xs.length) : ys.take i = left id xs := by
  rw [h.kept, List.take_length]
set_option maxHeartbeats 8000000 in
set_option maxRecDepth 100000 in
theorem Delete_at (w : World) (B : Nat) (v : Value) (xs : List It) (gi : Nat) (id : Int) (hgb : w.heap[gi]? = some (.cells #[.int .i64 id] 3 (0, 0))) (h : Row w B 44 v xs) (hl : xs.length ≤ 1000) :
    Calls Try.prog 18 #[v, .func (.func 19) #[] #[.pointer (some ⟨gi, 0, none⟩)]] w fun r w' => ∃ v', r = .returned v' ∧ Row w' B 44 v' (left id xs) ∧ Chg w w' (fun k => some k = v.ownBlock) ∧ (v'.ownBlock = v.ownBlock) := by
  have hgl : gi < w.heap.size := (Array.getElem?_eq_some_iff.1 hgb).1
  have C := Side.mk (IndexId_at w B _ v xs h gi id (cell_of_row w gi 0 _ _ (0, 0) hgb) hgl)
  have HGB := Side.mk hgb
  by_cases hi : idx (dn id) xs = -1
  · have C1 := C
    have hi' : idx (fun x => x.2 == id) xs = -1 := hi
    rw [hi'] at C1
    have L : Side (left id xs = xs) := ⟨by
      unfold left
      rw [List.filter_eq_self.2]
      intro x hx
      rw [idx_neg (dn id) xs hi x hx]; rfl⟩
    have H := Side.mk h
    clear h C hi hi' hgb
    go_enter Try.func18, Try.ntmps18
    go_wp2_with fail
    refine C1.out.mono ?_
    rintro e w2 ⟨rfl, hb⟩
    have HB := Side.mk hb
    clear hb
    go_wp2
    go_ret
    exact ⟨_, rfl, by rw [L.out]; exact Row.below H.out HB.out, Chg.of_below HB.out, rfl⟩
  · obtain ⟨k, y, h1, h2, h3, h4⟩ := idx_pos (dn id) xs hi
    have C1 := C
    have h1' : idx (fun x => x.2 == id) xs = k := h1
    rw [h1'] at C1
    have A0 := Side.mk (At.start id xs k y h2 h3 h4)
    have H := Side.mk h
    have hk : k < xs.length := (List.getElem?_eq_some_iff.1 h2).1
    obtain ⟨g, cap, rfl, hg, hcap⟩ : ∃ g cap, v = .slice (some ⟨g, 0, none⟩) xs.length cap ∧ g < w.heap.size ∧ xs.length ≤ cap := by
      rcases h.read with ⟨_, rfl⟩ | ⟨g, cap, rfl, hB, hg, hn, _⟩
      · simp at hk
      · exact ⟨g, cap, rfl, hg, hn⟩
    have HNE : Side (gi ≠ g) := ⟨fun e => by
      have h5 := Row.ne h hgb (by decide)
      exact h5 (by rw [e]; rfl)⟩
    have HG := Side.mk (And.intro hg hcap)
    clear h C hi h1 h1' h2 h3 h4 hg hcap hgb
    go_enter Try.func18, Try.ntmps18
    go_wp2_with fail
    refine C1.out.mono ?_
    rintro e w2 ⟨rfl, hb⟩
    have HB := Side.mk hb
    clear hb
    go_wp2_with fail
    have hx1000 : (xs.length : Int) ≤ 1000 := by omega
    go_loopw [5, 6] (fun v5 v6 wr => ∃ (i j : Nat) (ys : List It), v5 = .int .i64 (i : Int) ∧ v6 = .int .i64 (j : Int) ∧ Side (At id xs ys i j) ∧ Side (Row wr B 44 (.slice (some ⟨g, 0, none⟩) xs.length cap) ys) ∧ Side (Chg w wr (fun k => k = g))) (fun _ v6 _ => (xs.length - intOf v6).toNat)
    case atStart => exact ⟨k, k + 1, xs, rfl, by simp, A0, ⟨Row.below H.out (by (repeat (with_reducible first | exact HB.out | apply below_drewN | apply below_drew)))⟩, ⟨Chg.of_below (by (repeat (with_reducible first | exact HB.out | apply below_drewN | apply below_drew)))⟩⟩
    case round =>
      clear hk
      obtain ⟨i, j, ys, rfl, rfl, HA, HR, HC⟩ := hrel
      have hil : i < j := HA.out.lt
      have hjl : j ≤ xs.length := HA.out.le
      have hys : ys.length = xs.length := HA.out.len
      have hgw : g < wr.heap.size := Nat.lt_of_lt_of_le HG.out.1 HC.out.size
      have RD : Side (∀ (m : Nat) (x : It), ys[m]? = some x → wr.cell? ⟨g, m * 2, none⟩ = some (.int .i64 x.1) ∧ wr.cell? ⟨g, m * 2 + 1, none⟩ = some (.int .i64 x.2)) := ⟨by
        rcases HR.out.read with ⟨h0, _⟩ | ⟨g', cap', h0, _, _, _, _, hr⟩
        · simp at h0
        · simp at h0
          obtain ⟨rfl, _, _⟩ := h0
          exact hr⟩
      by_cases hj : j < xs.length
      · obtain ⟨x, hx⟩ : ∃ x, xs[j]? = some x := ⟨xs[j], List.getElem?_eq_getElem hj⟩
        have HX := Side.mk hx
        have r0 := (RD.out j x ((HA.out.rest j (Nat.le_refl _)).trans hx)).1
        have r1 := (RD.out j x ((HA.out.rest j (Nat.le_refl _)).trans hx)).2
        obtain ⟨z, hz⟩ : ∃ z, ys[i]? = some z := ⟨ys[i], List.getElem?_eq_getElem (by omega)⟩
        have i0 := (RD.out i z hz).1
        have i1 := (RD.out i z hz).2
        clear hx hz
        have hgw2 : wr.heap[gi]? = some (.cells #[.int .i64 id] 3 (0, 0)) := (HC.out.block gi hgl HNE.out).trans HGB.out
        have CD := fun w' (hb : Below wr.heap.size wr w') => Side.mk (isId_at x.1 x.2 id gi w' (cell_of_row w' gi 0 _ _ (0, 0) ((hb.block gi (Array.getElem?_eq_some_iff.1 hgw2).1).trans hgw2)) (Nat.lt_of_lt_of_le (Array.getElem?_eq_some_iff.1 hgw2).1 hb.size))
        have HGW2 := Side.mk hgw2
        clear hgw2
        have hji : (j : Int) < xs.length := by omega
        have hii : (i : Int) < xs.length := by omega
        cases hd : dn id x
        · have hd' : (x.2 == id) = false := hd
          rw [hd'] at CD
          have HD := Side.mk hd
          clear hd hd'
          go_wp2_with fail
          refine (CD _ (by (repeat (with_reducible first | exact Below.refl _ _ | apply below_drewN | apply below_drew | apply below_alloc)))).out.mono ?_
          rintro e w3 ⟨rfl, hb⟩
          have HB3 : Side (Below wr.heap.size wr w3) := ⟨below_then (by (repeat (with_reducible first | exact Below.refl _ _ | apply below_drewN | apply below_drew | apply below_alloc))) (by simp) hb⟩
          have j0 : w3.cell? ⟨wr.heap.size, 0, none⟩ = some (.int .i64 x.1) := ((bcell hb).1 _ _ (by simp)).trans (by simp)
          have j1 : w3.cell? ⟨wr.heap.size, 1, none⟩ = some (.int .i64 x.2) := ((bcell hb).1 _ _ (by simp)).trans (by simp)
          have q0 : w3.cell? ⟨g, i * 2, none⟩ = some (.int .i64 z.1) := ((bcell HB3.out).1 _ _ hgw).trans i0
          have q1 : w3.cell? ⟨g, i * 2 + 1, none⟩ = some (.int .i64 z.2) := ((bcell HB3.out).1 _ _ hgw).trans i1
          have HR3 := Side.mk (Row.below HR.out HB3.out)
          have fz : ∀ o, w3.frozen? ⟨g, o, none⟩ = false := fun o => by
            obtain ⟨cells, hc⟩ := Go.Proofs.YtbppjaglgbhckaaW.PrintWords.own_typed HR3.out g rfl
            exact Go.Proofs.YtbppjaglgbhckaaW.PrintWords.blk_frozen hc o
          clear hb r0 r1 i0 i1
          have bi : (i : Int) + 1 ≤ 9223372036854775807 := by omega
          have bj : (j : Int) + 1 ≤ 9223372036854775807 := by omega
          go_wp2
          go_roundw
          case rel =>
            (repeat apply Exists.intro)
            refine ⟨?_, rfl⟩
            exact ⟨i + 1, j + 1, ys.set i x, by simp, by simp, ⟨HA.out.keep x HX.out HD.out⟩, ⟨Row.write HR3.out i x (by omega)⟩, ⟨Chg.trans HC.out (Chg.trans (Chg.of_below HB3.out) (chg_set w3 g (i * 2) [.int .i64 x.1, .int .i64 x.2]) (fun _ _ h => h)) (fun _ _ h => h)⟩⟩
          case measure => simp [intOf]; omega
        · have hd' : (x.2 == id) = true := hd
          rw [hd'] at CD
          have HD := Side.mk hd
          clear hd hd'
          go_wp2_with fail
          refine (CD _ (by (repeat (with_reducible first | exact Below.refl _ _ | apply below_drewN | apply below_drew | apply below_alloc)))).out.mono ?_
          rintro e w3 ⟨rfl, hb⟩
          have HB3 : Side (Below wr.heap.size wr w3) := ⟨below_then (by (repeat (with_reducible first | exact Below.refl _ _ | apply below_drewN | apply below_drew | apply below_alloc))) (by simp) hb⟩
          have HR3 := Side.mk (Row.below HR.out HB3.out)
          clear hb r0 r1 i0 i1
          have bj : (j : Int) + 1 ≤ 9223372036854775807 := by omega
          go_wp2
          go_roundw
          case rel =>
            (repeat apply Exists.intro)
            refine ⟨?_, rfl⟩
            exact ⟨i, j + 1, ys, rfl, by simp, ⟨HA.out.skip x HX.out HD.out⟩, HR3, ⟨Chg.trans HC.out (Chg.of_below HB3.out) (fun _ _ h => h)⟩⟩
          case measure => simp [intOf]; omega
      · have hji : ¬ (j : Int) < xs.length := by omega
        have hje : j = xs.length := by omega
        subst hje
        have hcap : ¬ cap = i := by have := HG.out.2; omega
        have hii : (i : Int) ≤ xs.length := by omega
        have hic : i ≤ cap := by have := HG.out.2; omega
        have LN : Side (left id xs = ys.take i ∧ (left id xs).length = i) := ⟨HA.out.fin.symm, by rw [← HA.out.fin, List.length_take]; omega⟩
        obtain ⟨vs, hvl, hrun⟩ := run_clear wr 0 g (i * 2) (xs.length - i) (cap - i) (fun m hm => by
            obtain ⟨x, hx⟩ : ∃ x, ys[(i * 2 + m) / 2]? = some x := ⟨_, List.getElem?_eq_getElem (by omega)⟩
            have := RD.out _ x hx
            rcases Nat.mod_two_eq_zero_or_one m with h | h
            · rw [show i * 2 + m = (i * 2 + m) / 2 * 2 by omega, this.1]; rfl
            · rw [show i * 2 + m = (i * 2 + m) / 2 * 2 + 1 by omega, this.2]; rfl)
          (fun m _ => by
            obtain ⟨cells, hc⟩ := Go.Proofs.YtbppjaglgbhckaaW.PrintWords.own_typed HR.out g rfl
            exact Go.Proofs.YtbppjaglgbhckaaW.PrintWords.blk_frozen hc _)
        have HRC := Side.mk (Row.cut HR.out i (by omega) vs (by rw [hvl, hys]))
        have HCC := Side.mk (Chg.trans HC.out (chg_set wr g (i * 2) vs) (fun _ _ h => h))
        have HV := Side.mk hvl
        clear hvl
        go_wp2
        go_ret
        refine ⟨_, rfl, ?_, ?_, rfl⟩
        · rw [LN.out.1]; exact HRC.out
        · have := HCC.out
          simpa [Value.ownBlock] using this
end Go.Proofs.Ytbppjaglgbhckaa.CaG
