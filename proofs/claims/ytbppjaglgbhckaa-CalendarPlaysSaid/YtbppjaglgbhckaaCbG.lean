/- Package calendar: the model's row read and cut. No condition. -/
import Derived.Test.YtbppjaglgbhckaaCbBp
set_option linter.unusedVariables false
set_option linter.unusedSimpArgs false
namespace Go.Proofs.Ytbppjaglgbhckaa.CbG
open Go.RowKit Go.Proofs.Ytbppjaglgbhckaa.Kit Go.Proofs.Ytbppjaglgbhckaa.Kit4 Go.Proofs.Ytbppjaglgbhckaa.Kit5 Go.Proofs.Ytbppjaglgbhckaa.CaA Go.Proofs.Ytbppjaglgbhckaa.CaG Go.Proofs.Ytbppjaglgbhckaa.CaH Go.Proofs.Ytbppjaglgbhckaa.CaI Go.Proofs.Ytbppjaglgbhckaa.CaQ Go.Proofs.Ytbppjaglgbhckaa.CaR Go.Proofs.Ytbppjaglgbhckaa.CaX Go.Proofs.Ytbppjaglgbhckaa.CaZ Go.Proofs.Ytbppjaglgbhckaa.CbA
theorem MR.at {w : World} {B : Nat} {a : Option Addr} {len c : Nat} {ms : List De} (h : MR w B (.slice a len c) ms) (hne : ms ≠ []) : ∃ g off, a = some ⟨g, off, none⟩ ∧ B ≤ g ∧ g < w.heap.size ∧ len = ms.length ∧ ms.length ≤ c ∧ c ≤ maxLen ∧
    ∀ (j r : Nat) (x : De) (u : Value), ms[j]? = some x → (dcl x)[r]? = some u → w.cell? ⟨g, off + (j * 3 + r), none⟩ = some u := by
  rcases h with ⟨_, rfl⟩ | ⟨g, off, cap, cur, hv, h1, h2, h3, h4, h5⟩
  · exact absurd rfl hne
  · simp at hv
    obtain ⟨rfl, rfl, rfl⟩ := hv
    exact ⟨g, off, rfl, h1, (Array.getElem?_eq_some_iff.1 h2).1, rfl, h3, h4, h5⟩
theorem MR.get {w : World} {B : Nat} {a : Option Addr} {len c : Nat} {ms : List De} (h : MR w B (.slice a len c) ms) {j : Nat} {x : De} (hj : ms[j]? = some x) : ∃ g off, a = some ⟨g, off, none⟩ ∧ g < w.heap.size ∧ w.cell? ⟨g, off + j * 3, none⟩ = some (.int .i64 x.1) ∧ w.cell? ⟨g, off + j * 3 + 1, none⟩ = some (.int .i64 x.2.1) ∧ w.cell? ⟨g, off + j * 3 + 2, none⟩ = some (.int .i64 x.2.2) := by
  obtain ⟨g, off, rfl, h1, h2, _, _, _, hr⟩ := MR.at h (by rintro rfl; simp at hj)
  exact ⟨g, off, rfl, h2, hr j 0 x _ hj rfl, by have := hr j 1 x _ hj rfl; rw [← Nat.add_assoc] at this; exact this, by have := hr j 2 x _ hj rfl; rw [← Nat.add_assoc] at this; exact this⟩
theorem MR.drop {w : World} {B g off len c : Nat} {ms : List De} (h : MR w B (.slice (some ⟨g, off, none⟩) len c) ms) (n : Nat) (hn : n ≤ ms.length) : MR w B (.slice (some ⟨g, off + n * 3, none⟩) (ms.length - n) (c - n)) (ms.drop n) := by
  rcases h with ⟨h, _⟩ | ⟨g', off', cap, cur, hv, h1, h2, h3, h4, h5⟩
  · simp at h
  · simp at hv
    obtain ⟨⟨rfl, rfl⟩, rfl, rfl⟩ := hv
    refine .inr ⟨g, off + n * 3, c - n, cur, by rw [List.length_drop], h1, h2, by rw [List.length_drop]; omega, by omega, fun j r x u hj hu => ?_⟩
    rw [List.getElem?_drop] at hj
    have := h5 (n + j) r x u hj hu
    rw [show off + n * 3 + (j * 3 + r) = off + ((n + j) * 3 + r) by omega]
    exact this
theorem MR.none {w : World} {B g off len c : Nat} {ms : List De} (h : MR w B (.slice (some ⟨g, off, none⟩) len c) ms) : MR w B (.slice (some ⟨g, off, none⟩) 0 0) [] := by
  rcases h with ⟨h, _⟩ | ⟨g', off', cap, cur, hv, h1, h2, h3, h4, h5⟩
  · simp at h
  · simp at hv
    obtain ⟨⟨rfl, rfl⟩, rfl, rfl⟩ := hv
    exact .inr ⟨g, off, 0, cur, rfl, h1, h2, Nat.le_refl _, by decide, fun j r x u hj hu => by simp at hj⟩
theorem At1.below {w w' : World} {p : Nat} {d : De} (h : At1 w p d) (hb : Below w.heap.size w w') : At1 w' p d := (hb.block p h.lt).trans h
theorem At1.fr {X : Nat → Prop} {w w' : World} {p : Nat} {d : De} (h : At1 w p d) (hf : Fr X w w') : At1 w' p d := hf.block p _ h (.inr ⟨_, _, rfl, by decide, by decide⟩)
theorem IRow.get {w : World} {B : Nat} {a : Option Addr} {len c : Nat} {xs : List Int} (h : IRow w B (.slice a len c) xs) {j : Nat} {x : Int} (hj : xs[j]? = some x) : ∃ g, a = some ⟨g, 0, none⟩ ∧ g < w.heap.size ∧ w.cell? ⟨g, j, none⟩ = some (.int .i64 x) := by
  rcases IRow.read h with ⟨_, rfl⟩ | ⟨g, cap, hv, _, hg, _, _, hr⟩
  · simp at hj
  · simp at hv
    obtain ⟨rfl, rfl, rfl⟩ := hv
    exact ⟨g, rfl, hg, hr j x hj⟩
theorem due_up (t : Int) (xs : List It) : ∀ (j : Nat) (x : It), j < CaQ.due t xs → xs[j]? = some x → x.1 ≤ t := by
  induction xs with
  | nil => intro j x _ h; simp at h
  | cons y r ih =>
    intro j x hj hx
    unfold CaQ.due at hj
    split at hj
    · rename_i hy
      rcases j with _ | j
      · simp at hx
        subst hx
        exact hy
      · exact ih j x (by omega) (by simpa using hx)
    · omega
theorem due_stop (t : Int) (xs : List It) (x : It) (hx : xs[CaQ.due t xs]? = some x) : ¬ x.1 ≤ t := by
  induction xs with
  | nil => simp at hx
  | cons y r ih =>
    unfold CaQ.due at hx
    split at hx
    · rename_i hy
      exact ih (by simpa using hx)
    · rename_i hy
      simp at hx
      subst hx
      exact hy
/-- Less than all that are due: the next one is due. -/
theorem due_more {ms : List De} {t : Int} {n : Nat} {x : De} (hx : ms[n]? = some x) : n < CaQ.due t (its ms) → x.2.1 ≤ t := fun h => due_up t (its ms) n x.2 h (its_at ms n x hx)
theorem due_last {ms : List De} {t : Int} {n : Nat} {x : De} (hx : ms[n]? = some x) (h : n = CaQ.due t (its ms)) : ¬ x.2.1 ≤ t := due_stop t (its ms) x.2 (by rw [← h]; exact its_at ms n x hx)
theorem ids_at (ms : List De) (n j : Nat) (x : De) (hj : j < n) (hx : ms[j]? = some x) : (ids ((its ms).take n))[j]? = some x.2.2 := by
  unfold ids
  rw [List.getElem?_map, List.getElem?_take, if_pos hj, its_at ms j x hx]
  rfl
end Go.Proofs.Ytbppjaglgbhckaa.CbG
