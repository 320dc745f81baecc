/- Package slack: plain words of SlackSums. No condition. -/
import Derived.Test.YtlmckindacnkoaaSlL
set_option linter.unusedVariables false
set_option linter.unusedSimpArgs false
namespace Go.Proofs.Ytlmckindacnkoaa.SlN
open Go.RowKit Go.Proofs.Ytlmckindacnkoaa.Kit Go.Proofs.Ytlmckindacnkoaa.SlA Go.Proofs.Ytlmckindacnkoaa.SlB Go.Proofs.Ytlmckindacnkoaa.SlC Go.Proofs.Ytlmckindacnkoaa.SlD Go.Proofs.Ytlmckindacnkoaa.SlE Go.Proofs.Ytlmckindacnkoaa.SlF Go.Proofs.Ytlmckindacnkoaa.SlG Go.Proofs.Ytlmckindacnkoaa.SlH Go.Proofs.Ytlmckindacnkoaa.SlI Go.Proofs.Ytlmckindacnkoaa.SlJ Go.Proofs.Ytlmckindacnkoaa.SlK Go.Proofs.Ytlmckindacnkoaa.SlL
def sumL : List It → Int
  | [] => 0
  | x :: r => x.2 + sumL r
theorem sum_app (xs : List It) (x : It) : sumL (xs ++ [x]) = sumL xs + x.2 := by
  induction xs with
  | nil => simp [sumL]
  | cons y r ih => simp only [List.cons_append, sumL, ih]; omega
theorem sum_take (xs : List It) (i : Nat) (x : It) (h : xs[i]? = some x) : sumL (xs.take (i + 1)) = sumL (xs.take i) + x.2 := by
  obtain ⟨hl, hx⟩ := List.getElem?_eq_some_iff.1 h
  rw [List.take_succ_eq_append_getElem hl, sum_app, hx]
def Inc : Int → List It → Prop
  | _, [] => True
  | lo, x :: r => lo ≤ x.1 ∧ 1 ≤ x.2 ∧ x.2 ≤ 256 ∧ Inc (x.1 + 1) r
theorem Inc.mono {lo lo' : Int} {xs : List It} (h : Inc lo xs) (hl : lo' ≤ lo) : Inc lo' xs := by
  cases xs with
  | nil => trivial
  | cons x r => exact ⟨by have := h.1; omega, h.2⟩
theorem Inc.low {xs : List It} : ∀ {lo : Int}, Inc lo xs → ∀ x ∈ xs, lo ≤ x.1 ∧ 1 ≤ x.2 ∧ x.2 ≤ 256 := by
  induction xs with
  | nil => intro _ _ x hx; simp at hx
  | cons y r ih =>
    intro lo h x hx
    rcases List.mem_cons.1 hx with rfl | hx
    · exact ⟨h.1, h.2.1, h.2.2.1⟩
    · have := ih h.2.2.2 x hx
      have := h.1
      omega
theorem Inc.snoc {xs : List It} : ∀ {lo : Int} (id need : Int), Inc lo xs → lo ≤ id → (∀ x ∈ xs, x.1 < id) → 1 ≤ need → need ≤ 256 → Inc lo (xs ++ [(id, need)]) := by
  induction xs with
  | nil => intro lo id need _ h1 _ h3 h4; exact ⟨h1, h3, h4, trivial⟩
  | cons x r ih =>
    intro lo id need h h1 h2 h3 h4
    exact ⟨h.1, h.2.1, h.2.2.1, ih id need h.2.2.2 (by have := h2 x (by simp); omega) (fun y hy => h2 y (by simp [hy])) h3 h4⟩
theorem Inc.give {xs : List It} : ∀ (lo : Int) (nn : Nat), Inc lo xs → Inc lo (left (decr nn xs)) := by
  induction xs with
  | nil => intro _ _ _; rw [decr_nil]; trivial
  | cons x r ih =>
    intro lo nn h
    cases nn with
    | zero => rw [decr_zero, left_all _ (fun y hy => (Inc.low h y hy).2.1)]; exact h
    | succ s =>
      rw [decr_cons, left_cons]
      by_cases hx : x.2 = 1
      · rw [if_pos (by simp [hx])]
        exact Inc.mono (ih _ s h.2.2.2) (by have := h.1; omega)
      · rw [if_neg (by simp; omega)]
        exact ⟨h.1, by have := h.2.1; show 1 ≤ x.2 - 1; omega, by have := h.2.2.1; show x.2 - 1 ≤ 256; omega, ih _ s h.2.2.2⟩
theorem sum_give {xs : List It} : ∀ (nn : Nat), nn ≤ xs.length → (∀ x ∈ xs, 1 ≤ x.2) → sumL (left (decr nn xs)) + nn = sumL xs := by
  induction xs with
  | nil => intro nn h _; simp at h; subst h; rfl
  | cons x r ih =>
    intro nn hn h
    cases nn with
    | zero => rw [decr_zero, left_all _ h]; simp
    | succ s =>
      have hi := ih s (by simpa using hn) (fun y hy => h y (by simp [hy]))
      have h1 := h x (by simp)
      rw [decr_cons, left_cons]
      by_cases hx : x.2 = 1
      · rw [if_pos (by simp [hx])]
        simp only [sumL]; push_cast; omega
      · rw [if_neg (by simp; omega)]
        simp only [sumL]; push_cast; omega
theorem len_give {xs : List It} : ∀ (nn : Nat), (∀ x ∈ xs, 1 ≤ x.2) → (over nn xs).length + (left (decr nn xs)).length = xs.length := by
  induction xs with
  | nil => intro nn _; rw [over_nil, decr_nil]; rfl
  | cons x r ih =>
    intro nn h
    cases nn with
    | zero => rw [over_zero, decr_zero, left_all _ h]; simp
    | succ s =>
      have hi := ih s (fun y hy => h y (by simp [hy]))
      rw [decr_cons, left_cons, over_cons]
      by_cases hx : x.2 = 1
      · rw [if_pos (by simp [hx]), if_pos (by simp [hx])]
        simp only [List.length_cons]; omega
      · rw [if_neg (by simpa using hx), if_neg (by simp; omega)]
        simp only [List.length_cons]; omega
theorem sum_pos {xs : List It} (h : ∀ x ∈ xs, 1 ≤ x.2) : 0 ≤ sumL xs := by
  induction xs with
  | nil => simp [sumL]
  | cons x r ih => have := h x (by simp); have := ih (fun y hy => h y (by simp [hy])); simp only [sumL]; omega
theorem sum_take_le {xs : List It} (h : ∀ x ∈ xs, 1 ≤ x.2) (i : Nat) : 0 ≤ sumL (xs.take i) ∧ sumL (xs.take i) ≤ sumL xs := by
  induction xs generalizing i with
  | nil => simp [sumL]
  | cons x r ih =>
    have h1 := h x (by simp)
    have h2 : ∀ y ∈ r, 1 ≤ y.2 := fun y hy => h y (by simp [hy])
    cases i with
    | zero => have := sum_pos h2; simp only [List.take_zero, sumL]; omega
    | succ i => have := ih h2 i; simp only [List.take_succ_cons, sumL]; omega
theorem Inc.lt {xs : List It} : ∀ {lo : Int} (i : Nat) (x y : It), Inc lo xs → xs[i]? = some x → xs[i + 1]? = some y → x.1 < y.1 := by
  induction xs with
  | nil => intro _ i x y _ h; simp at h
  | cons z r ih =>
    intro lo i x y h hx hy
    cases i with
    | zero =>
      simp at hx hy
      subst hx
      have := Inc.low h.2.2.2 y (List.mem_of_getElem? hy)
      omega
    | succ i => exact ih i x y h.2.2.2 (by simpa using hx) (by simpa using hy)
end Go.Proofs.Ytlmckindacnkoaa.SlN
