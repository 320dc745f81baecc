/- Package wrap: Lay in whole numbers: whether shares can be laid. No condition. -/
import Derived.Test.YtkgafogkeaaniaaWlXzm
import Derived.Test.YtkgafogkeaaniaaWlBzm
set_option linter.unusedVariables false
set_option linter.unusedSimpArgs false
namespace Go.Proofs.Ytkgafogkeaaniaa.WlY
open Go.RowKit Go.Proofs.Ytkgafogkeaaniaa.PW Go.Proofs.YtkgafogkeaaniaaW.PrintWords Go.Proofs.Ytkgafogkeaaniaa.RwC Go.Proofs.Ytkgafogkeaaniaa.RwD Go.Proofs.Ytkgafogkeaaniaa.RwV WhPlain RaPlain Go.Proofs.Ytkgafogkeaaniaa.WlA Go.Proofs.Ytkgafogkeaaniaa.WlB Go.Proofs.Ytkgafogkeaaniaa.WlC Go.Proofs.Ytkgafogkeaaniaa.WlX
abbrev Sh := Int × Int × Bool
def sumI : List Sh → Int
  | [] => 0
  | x :: r => x.2.1 + sumI r
theorem sumI_nonneg : ∀ (ys : List Sh), (∀ x ∈ ys, 0 ≤ x.2.1) → 0 ≤ sumI ys
  | [], _ => Int.le_refl _
  | x :: r, h => by
    have h1 := h x (List.mem_cons_self ..)
    have h2 := sumI_nonneg r (fun y hy => h y (List.mem_cons_of_mem _ hy))
    show 0 ≤ x.2.1 + sumI r
    omega
theorem sumI_le {B : Int} : ∀ (ys : List Sh), (∀ x ∈ ys, x.2.1 ≤ B) → sumI ys ≤ ys.length * B
  | [], _ => by simp [sumI]
  | x :: r, h => by
    have h1 := h x (List.mem_cons_self ..)
    have h2 := sumI_le r (fun y hy => h y (List.mem_cons_of_mem _ hy))
    show x.2.1 + sumI r ≤ _
    rw [List.length_cons, Int.natCast_add, Int.add_mul]
    omega
section
variable {M : Int} (hM : Mb M)
include hM
theorem sum_at (l : List S49) (hl : l.length ≤ 1000) : ∀ (ys : List Sh) (i : Nat) (a : Int) (j : Nat), l.drop i = ys.map (toS M) → i + ys.length = l.length → (∀ x ∈ ys, 0 ≤ x.2.1 ∧ x.2.1 ≤ 1099511627776) → 0 ≤ a → a + 1099511627776 * ys.length ≤ 1125899906842624 →
    share_Sum.l0 (K0 + 4 + ys.length + 1 + j) l (l.length : Int) (i : Int) (red a M).1 (red a M).2 = some ((red (a + sumI ys) M).1, (red (a + sumI ys) M).2, 0)
  | [], i, a, j, hd, hi, _, _, _ => by
    rw [List.length_nil, Nat.add_zero, show K0 + 4 + 1 + j = (K0 + 4 + j) + 1 by omega, share_Sum.l0, if_neg (by simp at hi; omega)]
    simp [sumI]
  | x :: r, i, a, j, hd, hi, hx, ha, hb => by
    simp only [List.length_cons] at hi hb ⊢
    obtain ⟨x1, x2⟩ := hx x (List.mem_cons_self ..)
    have hil : i < l.length := by omega
    have hd' := hd
    rw [rd_drop hil, List.map_cons] at hd'
    obtain ⟨e1, e2⟩ := List.cons.inj hd'
    have sa : Sm a := by unfold Sm; omega
    have sx : Sm x.2.1 := by unfold Sm; omega
    have sx2 : Sm (a + x.2.1) := by unfold Sm; omega
    rw [show K0 + 4 + (r.length + 1) + 1 + j = (K0 + 4 + r.length + 1 + j) + 1 by omega, share_Sum.l0, if_pos (by omega), if_pos (by omega), if_pos (by omega), e1]
    have q := Add_r hM sa sx sx2 (r.length + 1 + j)
    rw [show K0 + 4 + (r.length + 1 + j) = K0 + 4 + r.length + 1 + j by omega] at q
    rw [show (toS M x).f1.f0 = (red x.2.1 M).1 from rfl, show (toS M x).f1.f1 = (red x.2.1 M).2 from rfl, q, Option.bind_some, if_pos rfl]
    have w1 : wrap64 ((i : Int) + 1) = ((i + 1 : Nat) : Int) := by unfold wrap64; omega
    rw [w1]
    have := sum_at l hl r (i + 1) (a + x.2.1) j e2 (by omega) (fun y hy => hx y (List.mem_cons_of_mem _ hy)) (by omega) (by omega)
    simp only [] at this ⊢
    rw [this, show a + x.2.1 + sumI r = a + sumI (x :: r) by show _ = a + (x.2.1 + sumI r); omega]
theorem sum_f (xs : List Sh) (hl : xs.length ≤ 90) (hx : ∀ x ∈ xs, 0 ≤ x.2.1 ∧ x.2.1 ≤ 1099511627776) (j : Nat) (hj : xs.length + 1 ≤ j) : share_Sum.f (K0 + 4 + j) (xs.map (toS M)) = some ((red (sumI xs) M).1, (red (sumI xs) M).2, 0) := by
  have h := sum_at hM (xs.map (toS M)) (by simp; omega) xs 0 0 (j - xs.length - 1) rfl (by simp) hx (Int.le_refl _) (by omega)
  have e := whole_red hM 0
  rw [Int.zero_mul] at e
  rw [show K0 + 4 + xs.length + 1 + (j - xs.length - 1) = K0 + 4 + j by omega, e, Int.zero_add] at h
  exact h
theorem may_r {a : Int} (ha : Sm a) (j : Nat) : ratio_May.f (K0 + j) (red a M).1 (red a M).2 = some true := (fr hM ha).may j
theorem mayL_yes {G : Int} (hG : Sm G) (j : Nat) : ∀ xs : List Sh, (∀ x ∈ xs, 0 ≤ x.2.1 ∧ x.2.1 ≤ G) → mayL (K0 + 4 + j) (red G M).1 (red G M).2 (xs.map (toS M)) = some true
  | [], _ => rfl
  | x :: r, hx => by
    obtain ⟨x1, x2⟩ := hx x (List.mem_cons_self ..)
    have sx : Sm x.2.1 := by unfold Sm at *; omega
    have hc := Cmp_r hM sx hG j
    have hmay := may_r hM sx (4 + j)
    rw [← Nat.add_assoc] at hmay
    rw [List.map_cons, mayL, show (toS M x).f1.f0 = (red x.2.1 M).1 from rfl, show (toS M x).f1.f1 = (red x.2.1 M).2 from rfl, hmay, Option.bind_some, if_pos rfl, if_neg (fun h => by have := (neg_red hM).1 h; omega), hc, Option.bind_some, if_neg (by
      rcases Int.lt_or_eq_of_le x2 with h | h
      · rw [cmp3_lt h]; decide
      · rw [cmp3_eq h]; decide)]
    exact mayL_yes hG j r (fun y hy => hx y (List.mem_cons_of_mem _ hy))
/-- A share as it comes. -/
structure OkS (M : Int) (x : S49) : Prop where
  i1 : I x.f1.f0
  i2 : I x.f1.f1
  low : low1 x.f1.f0 x.f1.f1 = true → ∃ a, Sm a ∧ x.f1 = rt M a
theorem mayL_any {G : Int} (hG : Sm G) (j : Nat) : ∀ l : List S49, (∀ x ∈ l, OkS M x) → mayL (K0 + 4 + j) (red G M).1 (red G M).2 l = some false ∨ ∃ xs : List Sh, l = xs.map (toS M) ∧ ∀ x ∈ xs, 0 ≤ x.2.1 ∧ x.2.1 ≤ G
  | [], _ => Or.inr ⟨[], rfl, fun x hx => absurd hx (by simp)⟩
  | x :: r, hx => by
    have h0 := hx x (List.mem_cons_self ..)
    have hmay := May_at h0.i1 h0.i2 (K0 + (4 + j)) (K0_big _)
    rw [← Nat.add_assoc] at hmay
    rw [mayL, hmay, Option.bind_some]
    by_cases hl : low1 x.f1.f0 x.f1.f1 = true
    · obtain ⟨a, sa, ea⟩ := h0.low hl
      have hl' : decide _ = true := hl
      rw [if_pos hl']
      have e0 : x.f1.f0 = (red a M).1 := congrArg S37.f0 ea
      have e1 : x.f1.f1 = (red a M).2 := congrArg S37.f1 ea
      rw [e0, e1]
      by_cases hn : (red a M).1 < 0
      · exact Or.inl (by rw [if_pos hn])
      rw [if_neg hn, Cmp_r hM sa hG j, Option.bind_some]
      by_cases hg : G < a
      · exact Or.inl (by rw [if_pos (by rw [cmp3_gt hg]; decide)])
      rw [if_neg (by
        rcases Int.lt_or_eq_of_le (Int.not_lt.1 hg) with h | h
        · rw [cmp3_lt h]; decide
        · rw [cmp3_eq h]; decide)]
      have hn' : ¬ a < 0 := fun h => hn ((neg_red hM).2 h)
      rcases mayL_any hG j r (fun y hy => hx y (List.mem_cons_of_mem _ hy)) with h | ⟨xs, rfl, hxs⟩
      · exact Or.inl h
      · refine Or.inr ⟨(x.f0, a, x.f2) :: xs, ?_, ?_⟩
        · rw [List.map_cons]
          congr 1
          show x = ⟨x.f0, rt M a, x.f2⟩
          rw [← ea]
        · intro y hy
          rcases List.mem_cons.1 hy with rfl | hy
          · exact ⟨by show 0 ≤ a; omega, by show a ≤ G; omega⟩
          · exact hxs y hy
    · have hl' : ¬ (decide _ = true) := hl
      exact Or.inl (by rw [if_neg hl'])
end
section
variable {M s t fr tt : Int} (L : Ln M s t fr tt)
include L
theorem long_f (j : Nat) : ratio_Sub.f (K0 + 4 + j) tt 1 fr 1 = some ((red (t - s) M).1, (red (t - s) M).2, 0) := by
  have e1 : red t M = (tt, 1) := by rw [L.ht]; exact whole_red L.hM tt
  have e2 : red s M = (fr, 1) := by rw [L.hs]; exact whole_red L.hM fr
  have b1 := L.bs
  have b2 := L.bt
  have h := Sub_r L.hM (a := t) (b := s) (by unfold Sm; omega) (by unfold Sm; omega) (by unfold Sm; omega) j
  rw [e1, e2] at h
  exact h
theorem frtt : fr < tt := by
  have h := L.lt
  rw [L.hs, L.ht] at h
  exact (Int.mul_lt_mul_right L.hM.pos).1 h
/-- Where all shares may be, the sum decides. -/
theorem mayF_at {co : Int} (h1 : 1 ≤ co) (h2 : co ≤ 64) (xs : List Sh) (hx : ∀ x ∈ xs, 0 ≤ x.2.1 ∧ x.2.1 ≤ t - s) (hl : xs.length ≤ 90) (hts : t - s ≤ 1099511627776) :
    mayF (K0 + 4 + 96) (xs.map (toS M)) fr tt co = some (if (t - s) * co < sumI xs then 6 else 0) := by
  have hlt := L.lt
  have sG : Sm (t - s) := by unfold Sm; omega
  have s0 := sumI_nonneg xs (fun x h => (hx x h).1)
  have s1 := sumI_le (B := 1099511627776) xs (fun x h => by have := hx x h; omega)
  have hm1 : (t - s) * co ≤ (t - s) * 64 := Int.mul_le_mul_of_nonneg_left h2 (by omega)
  have hm0 : 0 ≤ (t - s) * co := Int.mul_nonneg (by omega) (by omega)
  have ss : Sm (sumI xs) := by unfold Sm; omega
  have sm : Sm ((t - s) * co) := by unfold Sm; omega
  unfold mayF
  have hf := frtt L
  rw [if_neg (by omega), if_neg (by omega), if_neg (by omega), long_f L, Option.bind_some, if_pos rfl]
  simp only []
  rw [mayL_yes L.hM sG 96 xs hx, Option.bind_some, if_pos rfl, sum_f L.hM xs hl (fun x h => ⟨(hx x h).1, by have := (hx x h).2; omega⟩) 96 (by omega), Option.bind_some, if_pos rfl, Mul_r L.hM co sG (by unfold Sm; omega) sm, Option.bind_some, if_pos rfl]
  simp only []
  rw [Cmp_r L.hM ss sm, Option.bind_some]
  by_cases c : (t - s) * co < sumI xs
  · rw [if_pos c, if_pos (by rw [cmp3_gt c]; decide)]
  · rw [if_neg c, if_neg (by
      rcases Int.lt_or_eq_of_le (Int.not_lt.1 c) with h | h
      · rw [cmp3_lt h]; decide
      · rw [cmp3_eq h]; decide)]
theorem lay_at {co : Int} (h1 : 1 ≤ co) (h2 : co ≤ 64) (xs : List Sh) (hx : ∀ x ∈ xs, 0 ≤ x.2.1 ∧ x.2.1 ≤ t - s) (hl : xs.length ≤ 90) (hts : t - s ≤ 1099511627776) :
    layF (K0 + 4 + 96) 50 (xs.map (toS M)) fr tt co = some (if (t - s) * co < sumI xs then ([], 6) else ((layI M s t xs 0 s []).2.2, 0)) := by
  unfold layF
  rw [mayF_at L h1 h2 xs hx hl hts, Option.bind_some]
  by_cases c : (t - s) * co < sumI xs
  · rw [if_pos c, if_pos c, if_neg (by decide)]
  · rw [if_neg c, if_neg c, if_pos rfl]
    have e2 : red s M = (fr, 1) := by rw [L.hs]; exact whole_red L.hM fr
    have h := layL_I L 96 47 xs 0 s [] hx (Int.le_refl _) L.lt (Int.le_refl _) (by omega) (by simp; omega)
    rw [e2] at h
    rw [h, Option.bind_some]
/-- Lay of any shares as they come. -/
theorem lay_any {co : Int} (l : List S49) (hO : ∀ x ∈ l, OkS M x) (hl : l.length ≤ 90) (hts : t - s ≤ 1099511627776) :
    (∃ e, e ≠ 0 ∧ (e = 2 ∨ e = 6) ∧ layF (K0 + 4 + 96) 50 l fr tt co = some ([], e)) ∨
    ∃ xs : List Sh, l = xs.map (toS M) ∧ (∀ x ∈ xs, 0 ≤ x.2.1 ∧ x.2.1 ≤ t - s) ∧ 1 ≤ co ∧ co ≤ 64 ∧ sumI xs ≤ (t - s) * co ∧ layF (K0 + 4 + 96) 50 l fr tt co = some ((layI M s t xs 0 s []).2.2, 0) := by
  have hlt := L.lt
  have sG : Sm (t - s) := by unfold Sm; omega
  by_cases h1 : co < 1
  · exact Or.inl ⟨2, by decide, Or.inl rfl, by unfold layF mayF; rw [if_neg (by have := frtt L; omega), if_pos h1, Option.bind_some, if_neg (by decide)]⟩
  by_cases h2 : co > 64
  · exact Or.inl ⟨2, by decide, Or.inl rfl, by unfold layF mayF; rw [if_neg (by have := frtt L; omega), if_neg h1, if_pos h2, Option.bind_some, if_neg (by decide)]⟩
  rcases mayL_any L.hM sG 96 l hO with h | ⟨xs, rfl, hx⟩
  · exact Or.inl ⟨2, by decide, Or.inl rfl, by
      unfold layF mayF
      rw [if_neg (by have := frtt L; omega), if_neg h1, if_neg h2, long_f L, Option.bind_some, if_pos rfl]
      simp only []
      rw [h, Option.bind_some, if_neg (by decide), Option.bind_some, if_neg (by decide)]⟩
  · rw [List.length_map] at hl
    have h := lay_at L (by omega) (by omega) xs hx hl hts (co := co)
    by_cases c : (t - s) * co < sumI xs
    · rw [if_pos c] at h
      exact Or.inl ⟨6, by decide, Or.inr rfl, h⟩
    · rw [if_neg c] at h
      exact Or.inr ⟨xs, rfl, hx, by omega, by omega, by omega, h⟩
end
theorem lay_none (k : Nat) (l : List S49) {fr tt co : Int} (h : fr ≥ tt) : layF k 50 l fr tt co = some ([], 2) := by
  unfold layF mayF
  rw [if_pos h, Option.bind_some, if_neg (by decide)]
end Go.Proofs.Ytkgafogkeaaniaa.WlY
