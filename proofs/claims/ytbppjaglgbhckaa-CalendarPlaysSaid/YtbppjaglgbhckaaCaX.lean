/- Package calendar: the model's row of deeds, read alone, from an offset on. No condition. -/
import Derived.Test.YtbppjaglgbhckaaCaV
import Derived.Test.YtbppjaglgbhckaaKit5
set_option linter.unusedVariables false
set_option linter.unusedSimpArgs false
namespace Go.Proofs.Ytbppjaglgbhckaa.CaX
open Go.RowKit Go.Proofs.Ytbppjaglgbhckaa.Kit Go.Proofs.Ytbppjaglgbhckaa.Kit2 Go.Proofs.Ytbppjaglgbhckaa.Kit4 Go.Proofs.Ytbppjaglgbhckaa.Kit5 Go.Proofs.Ytbppjaglgbhckaa.CaA Go.Proofs.Ytbppjaglgbhckaa.CaI Go.Proofs.Ytbppjaglgbhckaa.CaR
/-- A deed: what, when, who. -/
abbrev De := Int × It
def dcl (x : De) : List Value := [.int .i64 x.1, .int .i64 x.2.1, .int .i64 x.2.2]
theorem E3 : El 3 dcl := ⟨by decide, fun _ => rfl, fun x v hv => by simp [dcl] at hv; rcases hv with rfl | rfl | rfl <;> rfl⟩
abbrev DRow := GRow 34 3 dcl
/-- The model's row: it may begin within its block. -/
def MR (w : World) (B : Nat) (v : Value) (ms : List De) : Prop :=
  (v = .slice none 0 0 ∧ ms = []) ∨ ∃ g off cap cur, v = .slice (some ⟨g, off, none⟩) ms.length cap ∧ B ≤ g ∧ w.heap[g]? = some (.cells cur 34 (0, 0)) ∧ ms.length ≤ cap ∧ cap ≤ maxLen ∧
    ∀ (j r : Nat) (x : De) (u : Value), ms[j]? = some x → (dcl x)[r]? = some u → w.cell? ⟨g, off + (j * 3 + r), none⟩ = some u
theorem MR.nil (w : World) (B : Nat) : MR w B (.slice none 0 0) [] := .inl ⟨rfl, rfl⟩
theorem MR.of_row {w : World} {B : Nat} {v : Value} {ms : List De} (h : DRow w B v ms) : MR w B v ms := by
  rcases h.read E3 with ⟨rfl, rfl⟩ | ⟨g, cap, rfl, hB, hg, hn, hm, hr⟩
  · exact MR.nil w B
  · obtain ⟨cur, hc⟩ := h.cells g rfl
    exact .inr ⟨g, 0, cap, cur, rfl, hB, hc, hn, hm, fun j r x u hj hu => by rw [Nat.zero_add]; exact hr.2 j x hj r u hu⟩
theorem MR.keep {w w' : World} {B : Nat} {v : Value} {ms : List De} (h : MR w B v ms) (hk : ∀ g cur, w.heap[g]? = some (.cells cur 34 (0, 0)) → B ≤ g → w'.heap[g]? = w.heap[g]?) : MR w' B v ms := by
  rcases h with h | ⟨g, off, cap, cur, h1, h2, h3, h4, h5, h6⟩
  · exact .inl h
  · have e := hk g cur h3 h2
    refine .inr ⟨g, off, cap, cur, h1, h2, e.trans h3, h4, h5, fun j r x u hj hu => ?_⟩
    have := h6 j r x u hj hu
    unfold World.cell? at this ⊢
    rw [e]
    exact this
theorem MR.below {w w' : World} {B : Nat} {v : Value} {ms : List De} (h : MR w B v ms) (hb : Below w.heap.size w w') : MR w' B v ms := h.keep (fun g cur hg _ => hb.block g (Array.getElem?_eq_some_iff.1 hg).1)
theorem MR.fr {X : Nat → Prop} {w w' : World} {B : Nat} {v : Value} {ms : List De} (h : MR w B v ms) (hf : Fr X w w') : MR w' B v ms := h.keep (fun g cur hg _ => by rw [hf.block g _ hg (.inr ⟨_, _, rfl, by decide, by decide⟩), hg])
theorem MR.shape {w : World} {B : Nat} {v : Value} {ms : List De} (h : MR w B v ms) : ∃ a c, v = .slice a ms.length c ∧ ms.length ≤ c ∧ c ≤ maxLen := by
  rcases h with ⟨rfl, rfl⟩ | ⟨g, off, cap, cur, rfl, _, _, h1, h2, _⟩
  · exact ⟨none, 0, rfl, Nat.le_refl _, by decide⟩
  · exact ⟨_, cap, rfl, h1, h2⟩
end Go.Proofs.Ytbppjaglgbhckaa.CaX
