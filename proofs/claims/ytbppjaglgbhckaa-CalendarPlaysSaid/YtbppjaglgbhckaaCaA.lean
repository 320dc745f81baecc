/- Package calendar, first text: rows of two whole numbers of one's own; the closures; slices.IndexFunc over them. No condition. -/
import Derived.Test.YtbppjaglgbhckaaProg
import Derived.Test.YtbppjaglgbhckaaKit
import Derived.Test.YtbppjaglgbhckaaWInvWords
import Derived.StillTactics
import Derived.Deep.Cut
set_option linter.unusedVariables false
set_option linter.unusedSimpArgs false
namespace Go.Proofs.Ytbppjaglgbhckaa.CaA
open Go.RowKit Go.Proofs.Ytbppjaglgbhckaa.Kit
abbrev It := Int × Int
def flat (xs : List It) : List Value := xs.flatMap (fun x => [.int .i64 x.1, .int .i64 x.2])
theorem flat_len (xs : List It) : (flat xs).length = xs.length * 2 := by
  induction xs with
  | nil => rfl
  | cons x r ih => simp [flat] at ih ⊢; omega
theorem flat_at (xs : List It) (j : Nat) (x : It) (h : xs[j]? = some x) : (flat xs)[j * 2]? = some (.int .i64 x.1) ∧ (flat xs)[j * 2 + 1]? = some (.int .i64 x.2) := by
  induction xs generalizing j with
  | nil => simp at h
  | cons y r ih =>
    have hc : flat (y :: r) = .int .i64 y.1 :: .int .i64 y.2 :: flat r := rfl
    rcases j with _ | j
    · simp at h
      subst h
      exact ⟨rfl, rfl⟩
    · simp at h
      have := ih j h
      rw [hc, show (j + 1) * 2 = j * 2 + 1 + 1 by omega]
      simpa using this
theorem flat_app (xs ys : List It) : flat (xs ++ ys) = flat xs ++ flat ys := by simp [flat]
/-- The items that lie in a row of one's own: from block B on. -/
def Row (w : World) (B : Nat) (t : TypeId) (v : Value) (xs : List It) : Prop := w.ownsRow B t 2 v xs.length (flat xs)
theorem Row.read {w : World} {B : Nat} {t : TypeId} {v : Value} {xs : List It} (h : Row w B t v xs) : (v = .slice none 0 0 ∧ xs = []) ∨ ∃ g cap, v = .slice (some ⟨g, 0, none⟩) xs.length cap ∧ B ≤ g ∧ g < w.heap.size ∧ xs.length ≤ cap ∧ cap ≤ maxLen ∧
    ∀ j x, xs[j]? = some x → w.cell? ⟨g, j * 2, none⟩ = some (.int .i64 x.1) ∧ w.cell? ⟨g, j * 2 + 1, none⟩ = some (.int .i64 x.2) := by
  obtain ⟨hl, ⟨rfl, h0⟩ | ⟨g, cap, cur, rfl, hB, hg, hn, hm, hs, ht⟩⟩ := h
  · exact .inl ⟨rfl, List.eq_nil_of_length_eq_zero h0⟩
  · refine .inr ⟨g, cap, rfl, hB, (Array.getElem?_eq_some_iff.1 hg).1, hn, hm, fun j x hj => ?_⟩
    have hjl : j < xs.length := (List.getElem?_eq_some_iff.1 hj).1
    have hf := flat_at xs j x hj
    rw [cell_of_row w g _ cur t (0, 0) hg, cell_of_row w g _ cur t (0, 0) hg]
    have e : ∀ i, i < xs.length * 2 → cur[i]? = (flat xs)[i]? := fun i hi => by
      rw [← ht, List.getElem?_take, if_pos hi]; simp
    rw [e _ (by omega), e _ (by omega)]
    exact hf
set_option maxHeartbeats 1000000 in
set_option maxRecDepth 100000 in
theorem New_at (w : World) : Calls Try.prog 8 #[] w fun r w' => r = .returned (.pointer (some ⟨w.heap.size, 0, none⟩)) ∧ w' = w.alloc (.cells #[.slice none 0 0] 42) := by
  go_enter Try.func8, Try.ntmps8
  go_wp2_with fail
  go_ret
  exact ⟨rfl, rfl⟩
set_option maxHeartbeats 1000000 in
set_option maxRecDepth 100000 in
theorem isId_at (x y id : Int) (g : Nat) (w : World) (h : w.cell? ⟨g, 0, none⟩ = some (.int .i64 id)) (hg : g < w.heap.size) : Calls Try.prog 19 #[.agg #[.int .i64 x, .int .i64 y], .pointer (some ⟨g, 0, none⟩)] w fun r w' => r = .returned (.bool (y == id)) ∧ Below w.heap.size w w' := by
  have h1 : ∀ o : Obj, (w.alloc o).cell? ⟨g, 0, none⟩ = some (.int .i64 id) := fun o => (World.cell?_alloc_some w _ o (by rw [h]; rfl)).trans h
  go_enter Try.func19, Try.ntmps19
  go_wp2_with fail
  go_ret
  exact ⟨ret_bool (by first | rfl | simp), by (repeat (with_reducible first | exact Below.refl _ _ | apply below_drewN | apply below_drew | apply below_alloc))⟩
end Go.Proofs.Ytbppjaglgbhckaa.CaA
