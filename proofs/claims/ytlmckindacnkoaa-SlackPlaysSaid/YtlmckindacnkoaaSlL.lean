/- Package slack: plain words of SlackOrder's queue, and of what is put anew. No condition. -/
import Derived.Test.YtlmckindacnkoaaSlK
import Derived.Test.YtlmckindacnkoaaKit2
set_option linter.unusedVariables false
set_option linter.unusedSimpArgs false
namespace Go.Proofs.Ytlmckindacnkoaa.SlL
open Go.RowKit Go.Proofs.Ytlmckindacnkoaa.Kit Go.Proofs.Ytlmckindacnkoaa.SlA Go.Proofs.Ytlmckindacnkoaa.SlB Go.Proofs.Ytlmckindacnkoaa.SlC Go.Proofs.Ytlmckindacnkoaa.SlD Go.Proofs.Ytlmckindacnkoaa.SlE Go.Proofs.Ytlmckindacnkoaa.SlF Go.Proofs.Ytlmckindacnkoaa.SlG Go.Proofs.Ytlmckindacnkoaa.SlH Go.Proofs.Ytlmckindacnkoaa.SlI Go.Proofs.Ytlmckindacnkoaa.SlJ Go.Proofs.Ytlmckindacnkoaa.SlK
theorem has_not {xs : List It} {id : Int} (h : ∀ x ∈ xs, x.1 ≠ id) : has xs id = false := by
  have := idx_none (fun x => x.1 == id) xs (fun j x hj => by simpa using h x (List.mem_of_getElem? hj))
  unfold has
  rw [this]
  rfl
theorem has_yes {xs : List It} {id : Int} (x : It) (h : x ∈ xs) (hx : x.1 = id) : has xs id = true := by
  unfold has
  by_cases hi : idx (fun x => x.1 == id) xs = -1
  · have := idx_neg _ xs hi x h
    simp [hx] at this
  · have := idx_ge (fun x => x.1 == id) xs
    simp; omega
theorem put_new {xs : List It} {id need : Int} (h1 : 1 ≤ need) (h2 : need ≤ 1048576) (h : ∀ x ∈ xs, x.1 ≠ id) (hl : xs.length < 64) : putE xs id need = 0 ∧ putL xs id need = xs ++ [(id, need)] := by
  have he : putE xs id need = 0 := by
    unfold putE
    rw [if_neg (by omega), has_not h, if_neg (by simp), if_neg (by omega)]
  exact ⟨he, by unfold putL; rw [if_pos he]⟩
theorem put_there {xs : List It} {id need : Int} (h1 : 1 ≤ need) (h2 : need ≤ 1048576) (x : It) (h : x ∈ xs) (hx : x.1 = id) : putE xs id need = 4 ∧ putL xs id need = xs := by
  have he : putE xs id need = 4 := by
    unfold putE
    rw [if_neg (by omega), if_pos (has_yes x h hx)]
  exact ⟨he, by unfold putL; rw [if_neg (by rw [he]; decide)]⟩
theorem decr_cons (s : Nat) (x : It) (r : List It) : decr (s + 1) (x :: r) = (x.1, x.2 - 1) :: decr s r := by simp [decr]
theorem over_zero (xs : List It) : over 0 xs = [] := by simp [over]
theorem over_cons (s : Nat) (x : It) (r : List It) : over (s + 1) (x :: r) = if (x.2 == 1) = true then x.1 :: over s r else over s r := by
  unfold over
  rw [List.take_succ_cons, List.filter_cons]
  split <;> rfl
theorem decr_nil (s : Nat) : decr s [] = [] := by simp [decr]
theorem over_nil (s : Nat) : over s [] = [] := by simp [over]
theorem left_nil : left [] = [] := rfl
theorem left_cons (x : It) (r : List It) : left (x :: r) = if (x.2 == 0) = true then left r else x :: left r := by
  unfold left dn
  rw [List.filter_cons]
  cases h : x.2 == 0 <;> simp [h]
theorem left_all (xs : List It) (h : ∀ x ∈ xs, 1 ≤ x.2) : left xs = xs := by
  unfold left
  rw [List.filter_eq_self.2]
  intro x hx
  have := h x hx
  unfold dn
  simp; omega
/-- Ids one behind the other from nx on, what is left never less than before. -/
def Ord : Int → Int → List It → Prop
  | _, _, [] => True
  | nx, lo, x :: r => x.1 = nx ∧ lo ≤ x.2 ∧ x.2 ≤ 20 ∧ Ord (nx + 1) x.2 r
theorem Ord.mono {nx lo lo' : Int} {xs : List It} (h : Ord nx lo xs) (hl : lo' ≤ lo) : Ord nx lo' xs := by
  cases xs with
  | nil => trivial
  | cons x r => exact ⟨h.1, by have := h.2.1; omega, h.2.2⟩
theorem Ord.low {xs : List It} : ∀ {nx lo : Int}, Ord nx lo xs → ∀ x ∈ xs, lo ≤ x.2 ∧ x.2 ≤ 20 := by
  induction xs with
  | nil => intro _ _ _ x hx; simp at hx
  | cons y r ih =>
    intro nx lo h x hx
    rcases List.mem_cons.1 hx with rfl | hx
    · exact ⟨h.2.1, h.2.2.1⟩
    · have := ih h.2.2.2 x hx
      have := h.2.1
      omega
theorem Ord.many {xs : List It} : ∀ (nx lo : Int) (nn : Nat), 2 ≤ lo → Ord nx lo xs → over nn xs = [] ∧ left (decr nn xs) = decr nn xs ∧ Ord nx (lo - 1) (decr nn xs) := by
  induction xs with
  | nil => intro nx lo nn _ _; rw [over_nil, decr_nil]; exact ⟨rfl, rfl, trivial⟩
  | cons x r ih =>
    intro nx lo nn hlo h
    obtain ⟨h1, h2, h3, h4⟩ := h
    cases nn with
    | zero =>
      rw [over_zero, decr_zero]
      exact ⟨rfl, left_all _ (fun y hy => by have := Ord.low (show Ord nx lo (x :: r) from ⟨h1, h2, h3, h4⟩) y hy; omega), h1, by omega, h3, h4⟩
    | succ s =>
      obtain ⟨i1, i2, i3⟩ := ih (nx + 1) x.2 s (by omega) h4
      rw [over_cons, decr_cons, left_cons, if_neg (by simp; omega), if_neg (by simp; omega), i1, i2]
      exact ⟨rfl, rfl, h1, by show lo - 1 ≤ x.2 - 1; omega, by show x.2 - 1 ≤ 20; omega, i3⟩
theorem Ord.give {xs : List It} : ∀ (nx : Int) (nn : Nat), Ord nx 1 xs → ∃ m : Nat, over nn xs = (List.range m).map (fun j : Nat => nx + (j : Int)) ∧ Ord (nx + m) 1 (left (decr nn xs)) ∧ m + (left (decr nn xs)).length = xs.length := by
  induction xs with
  | nil => intro nx nn _; exact ⟨0, by rw [over_nil]; rfl, by rw [decr_nil]; trivial, by rw [decr_nil]; rfl⟩
  | cons x r ih =>
    intro nx nn h
    obtain ⟨h1, h2, h3, h4⟩ := h
    cases nn with
    | zero =>
      have hl : left (x :: r) = x :: r := left_all _ (fun y hy => (Ord.low (show Ord nx 1 (x :: r) from ⟨h1, h2, h3, h4⟩) y hy).1)
      exact ⟨0, by rw [over_zero]; rfl, by rw [decr_zero, hl]; simpa using (show Ord nx 1 (x :: r) from ⟨h1, h2, h3, h4⟩), by rw [decr_zero, hl]; simp⟩
    | succ s =>
      by_cases hx : x.2 = 1
      · obtain ⟨m, i1, i2, i3⟩ := ih (nx + 1) s (hx ▸ h4)
        refine ⟨m + 1, ?_, ?_, ?_⟩
        · rw [over_cons, if_pos (by simp [hx]), i1, h1, List.range_succ_eq_map, List.map_cons, List.map_map]
          congr 1
          · simp
          · exact List.map_congr_left fun j _ => by simp; omega
        · rw [decr_cons, left_cons, if_pos (by simp [hx])]
          have e : nx + ((m + 1 : Nat) : Int) = nx + 1 + m := by simp; omega
          rw [e]; exact i2
        · rw [decr_cons, left_cons, if_pos (by simp [hx])]
          simp; omega
      · obtain ⟨i1, i2, i3⟩ := Ord.many (nx + 1) x.2 s (by omega) h4
        refine ⟨0, ?_, ?_, ?_⟩
        · rw [over_cons, if_neg (by simpa using hx), i1]; rfl
        · rw [decr_cons, left_cons, if_neg (by simp; omega), i2]
          exact ⟨by simpa using h1, by show 1 ≤ x.2 - 1; omega, by show x.2 - 1 ≤ 20; omega, by simpa using i3⟩
        · rw [decr_cons, left_cons, if_neg (by simp; omega), i2]
          simp [decr_len]
def mk (nx : Int) : Nat → Int → List It
  | 0, _ => []
  | k + 1, n => (nx, n) :: mk (nx + 1) k n
theorem mk_len (k : Nat) (n : Int) : ∀ nx, (mk nx k n).length = k := by
  induction k with
  | zero => intro _; rfl
  | succ k ih => intro nx; simp [mk, ih]
theorem mk_snoc (k : Nat) (n : Int) : ∀ nx, mk nx k n ++ [(nx + k, n)] = mk nx (k + 1) n := by
  induction k with
  | zero => intro nx; simp [mk]
  | succ k ih =>
    intro nx
    have := ih (nx + 1)
    rw [show nx + ((k + 1 : Nat) : Int) = nx + 1 + k by simp; omega]
    simp only [mk, List.cons_append] at this ⊢
    rw [this]
theorem mk_ids (k : Nat) (n : Int) : ∀ nx, ∀ x ∈ mk nx k n, nx ≤ x.1 ∧ x.1 < nx + k := by
  induction k with
  | zero => intro nx x hx; simp [mk] at hx
  | succ k ih =>
    intro nx x hx
    rcases List.mem_cons.1 hx with rfl | hx
    · simp; omega
    · have := ih _ x hx
      simp; omega
theorem mk_ord (k : Nat) (n lo : Int) (h1 : lo ≤ n) (h2 : n ≤ 20) : ∀ nx lo, lo ≤ n → Ord nx lo (mk nx k n) := by
  induction k with
  | zero => intro _ _ _; trivial
  | succ k ih => intro nx lo hlo; exact ⟨rfl, hlo, h2, ih (nx + 1) n (Int.le_refl _)⟩
theorem put_mk (i : Nat) (n : Int) (h1 : 1 ≤ n) (h2 : n ≤ 20) (hi : i < 64) : putE (mk 0 i n) i n = 0 ∧ putL (mk 0 i n) i n = mk 0 (i + 1) n := by
  have := put_new (xs := mk 0 i n) (id := i) (need := n) h1 (by omega) (fun x hx => by have := mk_ids i n 0 x hx; omega) (by rw [mk_len]; exact hi)
  refine ⟨this.1, this.2.trans ?_⟩
  have h := mk_snoc i n 0
  rw [Int.zero_add] at h
  exact h
end Go.Proofs.Ytlmckindacnkoaa.SlL
