/- Package calendar: rows of whole numbers joined; a sorted row by clocks. No condition. -/
import Derived.Test.YtbppjaglgbhckaaCaU
set_option linter.unusedVariables false
set_option linter.unusedSimpArgs false
namespace Go.Proofs.Ytbppjaglgbhckaa.CaV
open Go.RowKit Go.Proofs.Ytbppjaglgbhckaa.Kit Go.Proofs.Ytbppjaglgbhckaa.Kit2 Go.Proofs.Ytbppjaglgbhckaa.Kit4 Go.Proofs.Ytbppjaglgbhckaa.CaA Go.Proofs.Ytbppjaglgbhckaa.CaB Go.Proofs.Ytbppjaglgbhckaa.CaC Go.Proofs.Ytbppjaglgbhckaa.CaD Go.Proofs.Ytbppjaglgbhckaa.CaF Go.Proofs.Ytbppjaglgbhckaa.CaG Go.Proofs.Ytbppjaglgbhckaa.CaH Go.Proofs.Ytbppjaglgbhckaa.CaI Go.Proofs.Ytbppjaglgbhckaa.CaJ Go.Proofs.Ytbppjaglgbhckaa.CaK Go.Proofs.Ytbppjaglgbhckaa.CaL Go.Proofs.Ytbppjaglgbhckaa.CaM Go.Proofs.Ytbppjaglgbhckaa.CaN Go.Proofs.Ytbppjaglgbhckaa.CaO Go.Proofs.Ytbppjaglgbhckaa.CaP Go.Proofs.Ytbppjaglgbhckaa.CaQ Go.Proofs.Ytbppjaglgbhckaa.CaR Go.Proofs.Ytbppjaglgbhckaa.CaT
theorem run_iapps {w : World} {B : Nat} {v : Value} {xs : List Int} (ty : TypeId) (h : IRow w B v xs) (g c : Nat) (ys : List Int)
    (hy : ∀ (j : Nat) (y : Int), ys[j]? = some y → w.cell? ⟨g, j, none⟩ = some (.int .i64 y)) (hl : xs.length + ys.length ≤ 1000000) (hB : B ≤ w.heap.size) :
    ∃ v' w', (Builtin.append_ #[28, 28] ty #[v, .slice (some ⟨g, 0, none⟩) ys.length c]).run Try.prog w = .ok v' w' ∧ IRow w' B v' (xs ++ ys) ∧ w.grownBy w' v.ownBlock ∧ (v'.ownBlock = v.ownBlock ∨ v'.ownBlock = some w.heap.size) := by
  obtain ⟨i, hi, hz, hs, hb⟩ := info_int
  obtain ⟨v', w', h1, h2, h3, h4, h5⟩ := run_append_own_at (P := Try.prog) w B 28 ty 3 i _ 1 8 Try.underlying28 hi hz hs hb rfl (by decide) v xs.length (ints xs) h ⟨g, 0, none⟩ ys.length c (ints ys) (by simp [ints])
    (by intro j u hj; simp [ints] at hj; obtain ⟨y, h6, rfl⟩ := hj; rw [add0]; exact hy j y h6) (by intro u hu; simp [ints] at hu; obtain ⟨y, _, rfl⟩ := hu; rfl) (by simp only [maxLen]; omega) (by omega) hB
  refine ⟨v', w', h1, ?_, h3, h5⟩
  unfold IRow
  rw [List.length_append, show ints (xs ++ ys) = ints xs ++ ints ys by simp [ints]]
  exact h2
theorem wpList_iapps {ops : Array Oper} {rest : List Oper} {o : Oper} {a : Act} {Q : Exit → Act → World → Prop} {w : World} (hgd : o.guard = none) (s x : Operand)
    (ho : o.op = .call { callee := .builtin .append, args := #[s, x], argTypes := #[28, 28] }) (B : Nat) (v : Value) (xs : List Int) (hs : a.eval s = v) (h : IRow w B v xs)
    (g c n : Nat) (ys : List Int) (hn : ys.length = n) (hx : a.eval x = .slice (some ⟨g, 0, none⟩) n c) (hy : ∀ (j : Nat) (y : Int), ys[j]? = some y → w.cell? ⟨g, j, none⟩ = some (.int .i64 y))
    (hl : xs.length + ys.length ≤ 1000000) (hB : B ≤ w.heap.size)
    (K : ∀ v' w', IRow w' B v' (xs ++ ys) → w.grownBy w' v.ownBlock → wpList Try.prog ops Q rest (a.put o.dst v') w') :
    wpList Try.prog ops Q (o :: rest) a w := by
  subst hn
  refine wpList_plain hgd fun K' hK => ?_
  obtain ⟨v', w', h1, h2, h3, h5⟩ := run_iapps o.type h g c ys hy hl hB
  unfold Oper.wp execOp
  simp only [ho, resolve, invoke, builtin, Sem.run_bind, Sem.run_pure, Result.andThen_ok, List.map_toArray, List.map_cons, List.map_nil, hs, hx, h1]
  exact hK _ _ (K v' w' h2 h3)
/-- A row of whole numbers grown: the calendars stand. -/
theorem Two.grown {W w w' : World} {ga gb B : Nat} {A Bs : List It} {v : Value} {xs : List Int} (h : Two W w ga gb A Bs) (hr : IRow w B v xs) (hB : W.heap.size ≤ B) (hg : w.grownBy w' v.ownBlock) : Two W w' ga gb A Bs := by
  have hc := Chg.of_grown hg
  obtain ⟨va, vb, h1, h2, h3, h4⟩ := h.h
  have hn : ∀ k cs t, w.heap[k]? = some (.cells cs t (0, 0)) → t ≠ 3 → ¬ some k = v.ownBlock := fun k cs t hk ht e => by
    obtain ⟨cells, hc⟩ := Go.Proofs.YtbppjaglgbhckaaW.PrintWords.own_typed hr k e.symm
    rw [hc] at hk
    simp at hk
    exact ht hk.2.symm
  have hq : ∀ {g : Nat} {u : Value} {ys : List It}, Q w W.heap.size g u ys → Q w' W.heap.size g u ys := fun {g u ys} hq =>
    ⟨(hc.block g hq.lt (hn g _ _ hq.box (by decide))).trans hq.box, Row.move hq.row (fun k hk => hc.block k (Row.lt hq.row k hk) (by
      obtain ⟨cells, h5⟩ := Go.Proofs.YtbppjaglgbhckaaW.PrintWords.own_typed hq.row k hk
      exact hn k _ _ h5 (by decide))), hq.base⟩
  exact ⟨h.below.trans (Chg.below hc h.below.size (fun k hk => Nat.le_trans hB (IRow.base hr k hk.symm))), h.sa, h.sb, va, vb, hq h1, hq h2, h3, h4⟩
/-- The first k are those of the clocks ahead of t. -/
def Upto (S : List It) (t : Int) (k : Nat) : Prop := k ≤ S.length ∧ (∀ (j : Nat) (y : It), S[j]? = some y → j < k → y.1 < t) ∧ (∀ (j : Nat) (y : It), S[j]? = some y → k ≤ j → t ≤ y.1)
theorem Upto.zero {S : List It} (h : ∀ y ∈ S, 0 ≤ y.1) : Upto S 0 0 := ⟨Nat.zero_le _, fun _ _ _ h => by omega, fun j y hj _ => h y (List.mem_of_getElem? hj)⟩
theorem due_spec (t : Int) : ∀ xs : List It, Srt xs → (∀ (j : Nat) (y : It), xs[j]? = some y → j < CaQ.due t xs → y.1 ≤ t) ∧ (∀ (j : Nat) (y : It), xs[j]? = some y → CaQ.due t xs ≤ j → ¬ y.1 ≤ t)
  | [], _ => ⟨fun j y h => by simp at h, fun j y h => by simp at h⟩
  | x :: r, hs => by
    have hp := (srt_iff _).1 hs
    rw [List.pairwise_cons] at hp
    have ih := due_spec t r ((srt_iff _).2 hp.2)
    by_cases hx : x.1 ≤ t
    · have e : CaQ.due t (x :: r) = CaQ.due t r + 1 := by conv => lhs; unfold CaQ.due
                                                          rw [if_pos hx]
      rw [e]
      constructor
      · intro j y hj hlt
        rcases j with _ | j
        · simp at hj; subst hj; exact hx
        · exact ih.1 j y (by simpa using hj) (by omega)
      · intro j y hj hle
        rcases j with _ | j
        · omega
        · exact ih.2 j y (by simpa using hj) (by omega)
    · have e : CaQ.due t (x :: r) = 0 := by conv => lhs; unfold CaQ.due
                                            rw [if_neg hx]
      rw [e]
      refine ⟨fun j y _ h => by omega, fun j y hj _ => ?_⟩
      rcases j with _ | j
      · simp at hj; subst hj; exact hx
      · have h1 := hp.1 y (List.mem_of_getElem? (by simpa using hj : r[j]? = some y))
        rw [dlt_no] at h1
        omega
theorem Upto.next {S : List It} {t : Int} {k : Nat} (hs : Srt S) (h : Upto S t k) : Upto S (t + 1) (k + CaQ.due t (S.drop k)) := by
  have hd := due_spec t (S.drop k) (srt_sub hs (List.drop_sublist _ _))
  have hle := due_le t (S.drop k)
  rw [List.length_drop] at hle
  have hk := h.1
  refine ⟨by omega, fun j y hj hlt => ?_, fun j y hj hge => ?_⟩
  · by_cases hjk : j < k
    · have := h.2.1 j y hj hjk; omega
    · have := hd.1 (j - k) y (by rw [List.getElem?_drop, show k + (j - k) = j by omega]; exact hj) (by omega)
      omega
  · have := hd.2 (j - k) y (by rw [List.getElem?_drop, show k + (j - k) = j by omega]; exact hj) (by omega)
    omega
theorem Upto.all {S : List It} {t : Int} {k : Nat} (h : Upto S t k) (hl : ∀ y ∈ S, y.1 < t) : k = S.length := by
  have h1 := h.1
  by_cases e : k = S.length
  · exact e
  · have hx := List.getElem?_eq_getElem (show k < S.length by omega)
    have := h.2.2 k _ hx (Nat.le_refl _)
    have := hl _ (List.getElem_mem (show k < S.length by omega))
    omega
/-- Each that is due at a clock stands at that clock. -/
theorem Upto.at {S : List It} {t : Int} {k : Nat} (hs : Srt S) (h : Upto S t k) (j : Nat) (z : Int) (hj : (ids ((S.drop k).take (CaQ.due t (S.drop k))))[j]? = some z) : (t, z) ∈ S := by
  unfold ids at hj
  rw [List.getElem?_map] at hj
  obtain ⟨y, hy, rfl⟩ := Option.map_eq_some_iff.1 hj
  rw [List.getElem?_take] at hy
  split at hy
  · rename_i hlt
    have h1 := (due_spec t (S.drop k) (srt_sub hs (List.drop_sublist _ _))).1 j y hy hlt
    rw [List.getElem?_drop] at hy
    have h2 := h.2.2 (k + j) y hy (by omega)
    have : y = (t, y.2) := by
      obtain ⟨y1, y2⟩ := y
      simp at h1 h2
      rw [show y1 = t by omega]
    rw [← this]
    exact List.mem_of_getElem? hy
  · cases hy
theorem ids_join (S : List It) (k m : Nat) : ids (S.take k) ++ ids ((S.drop k).take m) = ids (S.take (k + m)) := by
  unfold ids
  rw [← List.map_append, List.take_add]
/-- Whether one is among the first n. -/
def seenP (f : Nat → It) (x : It) : Nat → Bool
  | 0 => false
  | n + 1 => seenP f x n || ((f n).1 == x.1 && (f n).2 == x.2)
theorem seenP_of (f : Nat → It) (x : It) : ∀ (n j : Nat), j < n → f j = x → seenP f x n = true
  | n + 1, j, hj, he => by
    unfold seenP
    by_cases e : j = n
    · subst e
      rw [he]
      simp
    · rw [seenP_of f x n j (by omega) he]
      rfl
end Go.Proofs.Ytbppjaglgbhckaa.CaV
