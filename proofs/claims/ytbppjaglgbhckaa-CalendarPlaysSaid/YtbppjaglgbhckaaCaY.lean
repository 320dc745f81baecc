/- Package calendar: where the model puts a deed, in plain words. No condition. -/
import Derived.Test.YtbppjaglgbhckaaCaX
set_option linter.unusedVariables false
set_option linter.unusedSimpArgs false
namespace Go.Proofs.Ytbppjaglgbhckaa.CaY
open Go.RowKit Go.Proofs.Ytbppjaglgbhckaa.CaA Go.Proofs.Ytbppjaglgbhckaa.CaG Go.Proofs.Ytbppjaglgbhckaa.CaI Go.Proofs.Ytbppjaglgbhckaa.CaK Go.Proofs.Ytbppjaglgbhckaa.CaM Go.Proofs.Ytbppjaglgbhckaa.CaN Go.Proofs.Ytbppjaglgbhckaa.CaQ Go.Proofs.Ytbppjaglgbhckaa.CaR Go.Proofs.Ytbppjaglgbhckaa.CaX
theorem dlt_eq {x y : It} (h : dlt x y = false) (g : dlt y x = false) : x = y := by
  rw [dlt_no] at *
  obtain ⟨x1, x2⟩ := x
  obtain ⟨y1, y2⟩ := y
  simp only at h g
  have h1 : x1 = y1 := by omega
  have h2 : x2 = y2 := by omega
  rw [h1, h2]
theorem dlt_self (x : It) : dlt x x = false := by rw [dlt_no]; omega
/-- In order there is but one way to stand. -/
theorem srt_one : ∀ (a b : List It), Srt a → Srt b → a.Perm b → a = b
  | [], b, _, _, h => h.nil_eq
  | x :: r, [], _, _, h => by have := h.length_eq; simp at this
  | x :: r, y :: s, ha, hb, h => by
    have pa := (srt_iff _).1 ha
    have pb := (srt_iff _).1 hb
    rw [List.pairwise_cons] at pa pb
    have hxy : x = y := by
      have hx : x ∈ y :: s := h.mem_iff.1 (by simp)
      have hy : y ∈ x :: r := h.mem_iff.2 (by simp)
      rcases List.mem_cons.1 hx with e | e
      · exact e
      · rcases List.mem_cons.1 hy with f | f
        · exact f.symm
        · exact dlt_eq (pb.1 x e) (pa.1 y f)
    subst hxy
    rw [srt_one r s ((srt_iff _).2 pa.2) ((srt_iff _).2 pb.2) ((List.perm_cons x).1 h)]
theorem putL_perm (xs : List It) (x : It) : (putL xs x).Perm (x :: xs) := by
  have h : ∀ ys : List It, (ys.filter (fun y => dlt y x) ++ ys.filter (fun y => !dlt y x)).Perm ys := fun ys => List.filter_append_perm (fun y => dlt y x) ys
  unfold putL
  exact List.perm_middle.trans ((h xs).cons x)
theorem ins_perm (xs : List It) (i : Nat) (x : It) : (ins xs i x).Perm (x :: xs) := by
  unfold ins
  have := List.perm_middle (a := x) (l₁ := xs.take i) (l₂ := xs.drop i)
  rw [List.take_append_drop] at this
  exact this
/-- Put behind all that do not come later, one stands as the calendar has it. -/
theorem ins_put {xs : List It} (hs : Srt xs) (x : It) (i : Nat) (hi : i ≤ xs.length) (h1 : ∀ (j : Nat) (y : It), j + 1 = i → xs[j]? = some y → dlt x y = false) (h2 : ∀ (j : Nat) (y : It), i ≤ j → xs[j]? = some y → dlt x y = true) : ins xs i x = putL xs x := by
  refine srt_one _ _ ?_ (putL_srt hs x) ((ins_perm xs i x).trans (putL_perm xs x).symm)
  have hp := (srt_iff _).1 hs
  rw [srt_iff]
  unfold ins
  rw [List.pairwise_append]
  refine ⟨hp.sublist (List.take_sublist _ _), ?_, ?_⟩
  · rw [List.pairwise_cons]
    refine ⟨fun y hy => ?_, hp.sublist (List.drop_sublist _ _)⟩
    obtain ⟨k, hk, rfl⟩ := List.getElem_of_mem hy
    rw [List.length_drop] at hk
    rw [List.getElem_drop]
    exact dlt_asym (h2 (i + k) _ (by omega) (List.getElem?_eq_getElem (by omega)))
  · intro a ha b hb
    obtain ⟨k, hk, rfl⟩ := List.getElem_of_mem ha
    rw [List.length_take] at hk
    rw [List.getElem_take]
    have hlast := h1 (i - 1) _ (by omega) (List.getElem?_eq_getElem (by omega))
    have hkl : dlt (xs[i - 1]'(by omega)) (xs[k]'(by omega)) = false := by
      by_cases e : k = i - 1
      · subst e; exact dlt_self _
      · exact hs k (i - 1) _ _ (by omega) (List.getElem?_eq_getElem (by omega)) (List.getElem?_eq_getElem (by omega))
    have hxk : dlt x (xs[k]'(by omega)) = false := dlt_trans2 hlast hkl
    rcases List.mem_cons.1 hb with rfl | hb
    · exact hxk
    · obtain ⟨q, hq, rfl⟩ := List.getElem_of_mem hb
      rw [List.length_drop] at hq
      rw [List.getElem_drop]
      exact hs k (i + q) _ _ (by omega) (List.getElem?_eq_getElem (by omega)) (List.getElem?_eq_getElem (by omega))
end Go.Proofs.Ytbppjaglgbhckaa.CaY
