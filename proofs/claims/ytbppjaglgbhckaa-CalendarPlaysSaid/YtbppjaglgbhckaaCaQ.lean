/- Package calendar: Due. No condition. -/
import Derived.Test.YtbppjaglgbhckaaCaP
set_option linter.unusedVariables false
set_option linter.unusedSimpArgs false
namespace Go.Proofs.Ytbppjaglgbhckaa.CaQ
open Go.RowKit Go.Proofs.Ytbppjaglgbhckaa.Kit Go.Proofs.Ytbppjaglgbhckaa.Kit4 Go.Proofs.Ytbppjaglgbhckaa.CaA Go.Proofs.Ytbppjaglgbhckaa.CaB Go.Proofs.Ytbppjaglgbhckaa.CaC Go.Proofs.Ytbppjaglgbhckaa.CaD Go.Proofs.Ytbppjaglgbhckaa.CaF Go.Proofs.Ytbppjaglgbhckaa.CaG Go.Proofs.Ytbppjaglgbhckaa.CaH Go.Proofs.Ytbppjaglgbhckaa.CaI Go.Proofs.Ytbppjaglgbhckaa.CaJ Go.Proofs.Ytbppjaglgbhckaa.CaK Go.Proofs.Ytbppjaglgbhckaa.CaL Go.Proofs.Ytbppjaglgbhckaa.CaM Go.Proofs.Ytbppjaglgbhckaa.CaN Go.Proofs.Ytbppjaglgbhckaa.CaO Go.Proofs.Ytbppjaglgbhckaa.CaP
open Go.Proofs.YtbppjaglgbhckaaW.PrintLast
/-- How many are due. -/
def due (t : Int) : List It → Nat
  | [] => 0
  | x :: r => if x.1 ≤ t then due t r + 1 else 0
theorem due_le (t : Int) : ∀ xs, due t xs ≤ xs.length
  | [] => Nat.le_refl _
  | x :: r => by have := due_le t r; unfold due; split <;> simp <;> omega
theorem due_at (t : Int) : ∀ (xs : List It) (i : Nat), (∀ (j : Nat) (x : It), j < i → xs[j]? = some x → x.1 ≤ t) → i ≤ xs.length → (∀ x, xs[i]? = some x → ¬ x.1 ≤ t) → due t xs = i
  | [], i, _, h, _ => by simp at h; simp [due, h]
  | x :: r, 0, _, _, h => by unfold due; rw [if_neg (h x rfl)]
  | x :: r, i + 1, h1, h2, h3 => by
    unfold due
    rw [if_pos (h1 0 x (by omega) rfl), due_at t r i (fun j y hj hy => h1 (j + 1) y (by omega) (by simpa using hy)) (by simpa using h2) (fun y hy => h3 y (by simpa using hy))]
def ids (xs : List It) : List Int := xs.map (·.2)
theorem ids_step (xs : List It) (i : Nat) (x : It) (h : xs[i]? = some x) : ids (xs.take (i + 1)) = ids (xs.take i) ++ [x.2] := by
  obtain ⟨hl, hx⟩ := List.getElem?_eq_some_iff.1 h
  unfold ids
  rw [List.take_succ_eq_append_getElem hl, List.map_append, hx]
  rfl
theorem ids_len (xs : List It) (i : Nat) (h : i ≤ xs.length) : (ids (xs.take i)).length = i := by
  unfold ids
  rw [List.length_map, List.length_take]
  omega
theorem IRow.shape {w : World} {B : Nat} {v : Value} {xs : List Int} (h : IRow w B v xs) : ∃ a c, v = .slice a xs.length c := by
  rcases h.read with ⟨rfl, rfl⟩ | ⟨g, cap, rfl, _⟩
  · exact ⟨none, 0, rfl⟩
  · exact ⟨_, cap, rfl⟩
set_option maxHeartbeats 8000000 in
set_option maxRecDepth 100000 in
theorem Due_at (w : World) (B gq : Nat) (v : Value) (xs : List It) (h : Q w B gq v xs) (hB : B ≤ w.heap.size) (hl : xs.length ≤ 1000) (t : Int) :
    Calls Try.prog 10 #[.pointer (some ⟨gq, 0, none⟩), .int .i64 t] w fun r w' => ∃ vo, r = .returned vo ∧ IRow w' w.heap.size vo (ids (xs.take (due t xs))) ∧ Got w w' B gq v (xs.drop (due t xs)) := by
  have HQ := Side.mk h
  obtain ⟨n, hn⟩ : ∃ n, n = xs.length := ⟨_, rfl⟩
  have hl1 : (n : Int) ≤ 1000 := by omega
  obtain ⟨A, c, hv⟩ := Row.shape h.row
  rw [← hn] at hv
  have b0 := h.cell
  have hlt := h.lt
  subst hv
  have HN := Side.mk hn
  clear h hB hl hn
  go_enter Try.func10, Try.ntmps10
  go_wp2_with fail
  go_loopw [5, 15] (fun v5 v15 wr => ∃ i : Nat, v15 = .int .i64 (i : Int) ∧ i ≤ n ∧ Side (∀ (j : Nat) (x : It), j < i → xs[j]? = some x → x.1 ≤ t) ∧ Side (IRow wr w.heap.size v5 (ids (xs.take i))) ∧ Side (Below w.heap.size w wr)) (fun _ v15 _ => (n - intOf v15).toNat)
  case atStart => exact ⟨0, rfl, Nat.zero_le _, ⟨fun j x hj => by omega⟩, ⟨IRow.nil _ _⟩, ⟨by (repeat (with_reducible first | exact Below.refl _ _ | apply below_drewN | apply below_drew | apply below_alloc))⟩⟩
  case round =>
    obtain ⟨i, rfl, hi, HLO, HI, HB⟩ := hrel
    obtain ⟨wo, hwo⟩ : ∃ wo : World, wo = wr := ⟨_, rfl⟩
    rw [← hwo] at HI HB ⊢
    clear hwo
    have HQ1 := Side.mk (HQ.out.below HB.out)
    have hi0 : (0 : Int) ≤ i := by omega
    have tail : ∀ W : World, Below wo.heap.size wo W → due t xs = i → Side (Calls Try.prog 17 #[.slice A n c, .int .i64 0, .int .i64 i] W fun r w' => ∃ v', r = .returned v' ∧ Row w' B 44 v' (xs.drop i) ∧ Chg W w' (fun k => some k = (Value.slice A n c).ownBlock) ∧ v'.ownBlock = (Value.slice A n c).ownBlock) := fun W hb _ =>
      ⟨Cut_at W B _ xs (Row.below HQ1.out.row hb) (by have := HN.out; omega) i (by have := HN.out; omega)⟩
    obtain ⟨a5, c5, rfl⟩ := IRow.shape HI.out
    rw [ids_len xs i (by have := HN.out; omega)] at *
    have CT := Side.mk tail
    clear tail
    have d0 := HQ1.out.cell
    have dlt := HQ1.out.lt
    by_cases hin : i < n
    · have hii : (i : Int) < n := by omega
      have hi1 : (i : Int) + 1 ≤ 9223372036854775807 := by omega
      obtain ⟨x, hx⟩ : ∃ x, xs[i]? = some x := ⟨_, List.getElem?_eq_getElem (by have := HN.out; omega)⟩
      obtain ⟨g, rfl, hgl, r0, r1⟩ : ∃ g, A = some ⟨g, 0, none⟩ ∧ g < wo.heap.size ∧ wo.cell? ⟨g, i * 2, none⟩ = some (.int .i64 x.1) ∧ wo.cell? ⟨g, i * 2 + 1, none⟩ = some (.int .i64 x.2) := by
        rcases HQ1.out.row.read with ⟨_, h0⟩ | ⟨g, cap, hv, _, hg, _, _, hr⟩
        · have := HN.out; rw [h0] at this; simp at this; omega
        · simp at hv
          exact ⟨g, hv.1, hg, hr i x hx⟩
      have HX := Side.mk hx
      clear hx
      by_cases hd : t < x.1
      · have HE : Side (due t xs = i) := ⟨due_at t xs i HLO.out (by have := HN.out; omega) (fun y hy => by rw [HX.out] at hy; cases hy; omega)⟩
        go_wp2_with fail
        refine (CT.out _ (by (repeat (with_reducible first | exact Below.refl _ _ | apply below_drewN | apply below_drew | apply below_alloc))) HE.out).out.mono ?_
        rintro e w2 ⟨v', rfl, hr, hc, ho⟩
        obtain ⟨hbx, hg⟩ := got_of HQ.out (below_then HB.out HB.out.size (by (repeat (with_reducible first | exact Below.refl _ _ | apply below_drewN | apply below_drew | apply below_alloc)))) hr hc ho
        obtain ⟨a', l', c', rfl⟩ : ∃ a l c, v' = .slice a l c := by obtain ⟨a, c, e⟩ := Row.shape hr; exact ⟨a, _, c, e⟩
        have HG := Side.mk hg
        have k0 : w2.cell? ⟨gq, 0, none⟩ = some _ := cell_of_row w2 gq 0 _ _ (0, 0) hbx
        have f0 : w2.frozen? ⟨gq, 0, none⟩ = false := Go.Proofs.YtbppjaglgbhckaaW.PrintWords.blk_frozen hbx 0
        have HI2 := IRow.chg (IRow.below HI.out (by (repeat (with_reducible first | exact Below.refl _ _ | apply below_drewN | apply below_drew | apply below_alloc)))) hc (fun k hk e => by have := IRow.base HI.out k hk; have := Row.lt HQ.out.row k e.symm; omega)
        have HI3 := Side.mk (IRow.move HI2 (w' := w2.setCell ⟨gq, 0, none⟩ (.slice a' l' c')) (fun k hk => Below.heap_setCell w2 ⟨gq, 0, none⟩ _ k (fun e => by have := IRow.base HI.out k hk; have := HQ.out.lt; simp at e; omega)))
        clear hr hc ho hbx hg HI2 CT
        go_wp2
        go_ret
        exact ⟨_, rfl, by rw [HE.out]; exact HI3.out, by rw [HE.out]; exact HG.out⟩
      · have HLE : Side (x.1 ≤ t) := ⟨by omega⟩
        clear CT HQ1
        go_wp2_with (at_builtin; refine wpList_iapp rfl _ _ rfl w.heap.size _ (ids (xs.take i)) rfl ?c1 _ 1 x.2 rfl ?c2 ?c3 ?c4 ?c5)
        case c1 => exact IRow.below HI.out (by (repeat (with_reducible first | exact Below.refl _ _ | apply below_drewN | apply below_drew | apply below_alloc)))
        case c3 => rw [ids_len xs i (by have := HN.out; omega)]; omega
        case c4 => have := HB.out.size; omega
        case c5 =>
          intro v' w2 hr hg hat
          have HI2 : Side (IRow w2 w.heap.size v' (ids (xs.take (i + 1)))) := ⟨by rw [ids_step xs i x HX.out]; exact hr⟩
          have HB2 : Side (Below w.heap.size w w2) := ⟨(below_then HB.out HB.out.size (by (repeat (with_reducible first | exact Below.refl _ _ | apply below_drewN | apply below_drew | apply below_alloc)))).trans (Chg.below (Chg.of_grown hg) (by have := HB.out.size; simp; omega) (fun k hk => IRow.base HI.out k hk.symm))⟩
          have HLO2 : Side (∀ (j : Nat) (y : It), j < i + 1 → xs[j]? = some y → y.1 ≤ t) := ⟨fun j y hj hy => by
            by_cases e : j = i
            · subst e
              rw [HX.out] at hy
              cases hy
              exact HLE.out
            · exact HLO.out j y (by omega) hy⟩
          obtain ⟨a', c', rfl⟩ := IRow.shape HI2.out
          clear hr hg hat HI HB HLO HX r0 r1 d0
          go_wp2
          go_roundw
          case rel => exact ⟨i + 1, by simp, by omega, HLO2, HI2, HB2⟩
          case measure => simp [intOf]; omega
    · have hii : ¬ (i : Int) < n := by omega
      have HE : Side (due t xs = i) := ⟨due_at t xs i HLO.out (by have := HN.out; omega) (fun y hy => by have := (List.getElem?_eq_some_iff.1 hy).1; have := HN.out; omega)⟩
      go_wp2_with fail
      refine (CT.out _ (by (repeat (with_reducible first | exact Below.refl _ _ | apply below_drewN | apply below_drew | apply below_alloc))) HE.out).out.mono ?_
      rintro e w2 ⟨v', rfl, hr, hc, ho⟩
      obtain ⟨hbx, hg⟩ := got_of HQ.out (below_then HB.out HB.out.size (by (repeat (with_reducible first | exact Below.refl _ _ | apply below_drewN | apply below_drew | apply below_alloc)))) hr hc ho
      obtain ⟨a', l', c', rfl⟩ : ∃ a l c, v' = .slice a l c := by obtain ⟨a, c, e⟩ := Row.shape hr; exact ⟨a, _, c, e⟩
      have HG := Side.mk hg
      have k0 : w2.cell? ⟨gq, 0, none⟩ = some _ := cell_of_row w2 gq 0 _ _ (0, 0) hbx
      have f0 : w2.frozen? ⟨gq, 0, none⟩ = false := Go.Proofs.YtbppjaglgbhckaaW.PrintWords.blk_frozen hbx 0
      have HI2 := IRow.chg (IRow.below HI.out (by (repeat (with_reducible first | exact Below.refl _ _ | apply below_drewN | apply below_drew | apply below_alloc)))) hc (fun k hk e => by have := IRow.base HI.out k hk; have := Row.lt HQ.out.row k e.symm; omega)
      have HI3 := Side.mk (IRow.move HI2 (w' := w2.setCell ⟨gq, 0, none⟩ (.slice a' l' c')) (fun k hk => Below.heap_setCell w2 ⟨gq, 0, none⟩ _ k (fun e => by have := IRow.base HI.out k hk; have := HQ.out.lt; simp at e; omega)))
      clear hr hc ho hbx hg HI2 CT
      go_wp2
      go_ret
      exact ⟨_, rfl, by rw [HE.out]; exact HI3.out, by rw [HE.out]; exact HG.out⟩
end Go.Proofs.Ytbppjaglgbhckaa.CaQ
