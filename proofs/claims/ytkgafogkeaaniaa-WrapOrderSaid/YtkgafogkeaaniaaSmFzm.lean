/- The laws of package wrap: which shares are small; rows; pieces that are the same; the document's example. No condition. -/
import Derived.Test.YtkgafogkeaaniaaWlYzm
import Derived.Test.YtkgafogkeaaniaaRfXzm
import Derived.Test.YtkgafogkeaaniaaPWx6zm
import Derived.Test.YtkgafogkeaaniaaWFuAzm
set_option linter.unusedVariables false
set_option linter.unusedSimpArgs false
namespace Go.Proofs.Ytkgafogkeaaniaa.SmF
open Go.RowKit Go.Proofs.Ytkgafogkeaaniaa.PW Go.Proofs.YtkgafogkeaaniaaW.PrintWords Go.Proofs.Ytkgafogkeaaniaa.RwC Go.Proofs.Ytkgafogkeaaniaa.RwV WhPlain RaPlain Go.Proofs.Ytkgafogkeaaniaa.WlB Go.Proofs.Ytkgafogkeaaniaa.WlC Go.Proofs.Ytkgafogkeaaniaa.WlX Go.Proofs.Ytkgafogkeaaniaa.WlY Go.Proofs.Ytkgafogkeaaniaa.RfX
def toR (M : Int) (x : Sh) : S39 := ⟨x.1, rt M x.2.1, x.2.2⟩
theorem rd39 {l : List S39} {j : Nat} (hj : j < l.length) : l[j]? = some (rd_T39 l (j : Int)) := by
  unfold rd_T39
  rw [Int.toNat_natCast, List.getD_eq_getElem?_getD, List.getElem?_eq_getElem hj]
  rfl
theorem rows_at (l : List S39) (hl : l.length ≤ 1000) : ∀ (m i k : Nat), i + m = l.length → m + 1 ≤ k → evenhandedlaw18_Rows.l0 k l ((l.take i).map fun x => (⟨x.f0, ⟨x.f1.f0, x.f1.f1⟩, x.f2⟩ : S49)) (i : Int) = some (l.map fun x => (⟨x.f0, ⟨x.f1.f0, x.f1.f1⟩, x.f2⟩ : S49))
  | 0, i, k, hi, hk => by
    obtain ⟨k, rfl⟩ : ∃ j, k = j + 1 := ⟨k - 1, by omega⟩
    rw [evenhandedlaw18_Rows.l0, if_neg (by omega), List.take_of_length_le (by omega)]
  | m + 1, i, k, hi, hk => by
    obtain ⟨k, rfl⟩ : ∃ j, k = j + 1 := ⟨k - 1, by omega⟩
    have w1 : wrap64 ((i : Int) + 1) = ((i + 1 : Nat) : Int) := by unfold wrap64; omega
    rw [evenhandedlaw18_Rows.l0, if_pos (by omega), if_pos (by omega), if_pos (by simp; omega), w1]
    have h := rows_at l hl m (i + 1) k (by omega) (by omega)
    rw [List.take_add_one, rd39 (by omega), List.map_append] at h
    exact h
theorem rows_f (l : List S39) (hl : l.length ≤ 1000) (k : Nat) (hk : l.length + 1 ≤ k) : evenhandedlaw18_Rows.f k l = some (l.map fun x => (⟨x.f0, ⟨x.f1.f0, x.f1.f1⟩, x.f2⟩ : S49)) := rows_at l hl l.length 0 k (by omega) hk
theorem awake_f : evenhandedlaw18_awake.f = some true := by
  have hM : Mb 3 := ⟨by decide, by decide⟩
  have L : Ln 3 0 3 0 1 := ⟨hM, by decide, by decide, by decide, by decide, by decide⟩
  have h := lay_at L (co := 2) (by decide) (by decide) [(1, 2, false), (2, 2, false), (3, 2, false)] (by simp) (by decide) (by decide)
  rw [if_neg (by decide)] at h
  unfold evenhandedlaw18_awake.f wrap_Lay.f
  have e : ([(⟨1, (⟨2, 3⟩ : S37), false⟩ : S49), (⟨2, (⟨2, 3⟩ : S37), false⟩ : S49), (⟨3, (⟨2, 3⟩ : S37), false⟩ : S49)] : List S49) = [((1 : Int), (2 : Int), false), (2, 2, false), (3, 2, false)].map (toS 3) := by kernel_rfl
  rw [e, h, Option.bind_some]
  rfl
def to49 (x : S39) : S49 := ⟨x.f0, ⟨x.f1.f0, x.f1.f1⟩, x.f2⟩
/-- What a small share is, by a denominator. -/
structure Sml (M : Int) (x : S39) : Prop where
  n : x.f1.f0.natAbs ≤ 1048576
  d : x.f1.f1.natAbs ≤ 4096
  dvd : 0 < x.f1.f1 → x.f1.f1 ∣ M
theorem Sml.up {M M' : Int} {x : S39} (h : Sml M x) (hd : M ∣ M') : Sml M' x := ⟨h.n, h.d, fun e => Int.dvd_trans (h.dvd e) hd⟩
theorem small_at (l : List S39) : ∀ (m i : Nat) (d : Int) (j : Nat), i + m = l.length → i ≤ 41 → 1 ≤ d → d ≤ 16777216 → (∀ x ∈ l.take i, Sml d x) →
    ∃ b, evenhandedlaw18_Small.l0 (K0 + 2 * m + 1 + j) l d (i : Int) = some b ∧ (b = true → ∃ M, Mb M ∧ l.length ≤ 41 ∧ ∀ x ∈ l, Sml M x)
  | 0, i, d, j, hi, h41, h1, h2, hx => by
    refine ⟨true, ?_, fun _ => ⟨d, ⟨by omega, h2⟩, by omega, ?_⟩⟩
    · rw [show K0 + 2 * 0 + 1 + j = (K0 + j) + 1 by omega, evenhandedlaw18_Small.l0, if_neg (by omega)]
    · rw [List.take_of_length_le (by omega)] at hx
      exact hx
  | m + 1, i, d, j, hi, h41, h1, h2, hx => by
    have hil : i < l.length := by omega
    rw [show K0 + 2 * (m + 1) + 1 + j = (K0 + 2 * m + 1 + j) + 1 + 1 by omega, evenhandedlaw18_Small.l0, if_pos (by omega), if_pos (by omega)]
    obtain ⟨x, hxe⟩ : ∃ x, x = rd_T39 l (i : Int) := ⟨_, rfl⟩
    rw [← hxe]
    have no : ∀ a b : Int, ∃ c, evenhandedlaw18_Small.j1 ((K0 + 2 * m + 1 + j) + 1) l d (i : Int) true a b = some c ∧ (c = true → ∃ M, Mb M ∧ l.length ≤ 41 ∧ ∀ x ∈ l, Sml M x) := fun a b => ⟨false, by rw [evenhandedlaw18_Small.j1, if_pos rfl], fun e => (by cases e)⟩
    by_cases c1 : (i : Int) > 40
    · rw [if_pos c1]; exact no _ _
    rw [if_neg c1]
    by_cases c2 : x.f1.f0 > 1048576
    · rw [if_pos c2]; exact no _ _
    rw [if_neg c2]
    by_cases c3 : x.f1.f0 < -1048576
    · rw [if_pos c3]; exact no _ _
    rw [if_neg c3]
    by_cases c4 : x.f1.f1 > 4096
    · rw [if_pos c4]; exact no _ _
    rw [if_neg c4]
    by_cases c5 : x.f1.f1 < -4096
    · rw [decide_eq_true c5]; exact no _ _
    rw [decide_eq_false c5, evenhandedlaw18_Small.j1, if_neg (by decide)]
    have w1 : wrap64 ((i : Int) + 1) = ((i + 1 : Nat) : Int) := by unfold wrap64; omega
    have step : ∀ d' : Int, 1 ≤ d' → d' ≤ 16777216 → d ∣ d' → (0 < x.f1.f1 → x.f1.f1 ∣ d') → ∃ b, evenhandedlaw18_Small.l0 (K0 + 2 * m + 1 + j) l d' (wrap64 ((i : Int) + 1)) = some b ∧ (b = true → ∃ M, Mb M ∧ l.length ≤ 41 ∧ ∀ x ∈ l, Sml M x) := fun d' q1 q2 q3 q4 => by
      rw [w1]
      refine small_at l m (i + 1) d' j (by omega) (by omega) q1 q2 (fun y hy => ?_)
      rw [List.take_add_one, rd39 hil, ← hxe] at hy
      rcases List.mem_append.1 hy with hy | hy
      · exact (hx y hy).up q3
      · simp at hy
        subst hy
        exact ⟨by omega, by omega, q4⟩
    by_cases c6 : x.f1.f1 > 0
    · rw [if_pos c6, gcd_f (by omega) (by omega) _ (by have := K0_big (2 * m + 1 + j); rw [show K0 + 2 * m + 1 + j = K0 + (2 * m + 1 + j) by omega]; exact this), Option.bind_some]
      have hg := Int.gcd_pos_of_ne_zero_left (a := d) x.f1.f1 (by omega)
      rw [if_neg (by omega)]
      have hg0 : 0 < (Int.gcd d x.f1.f1 : Int) := by omega
      clear hg
      obtain ⟨p, hp⟩ := Int.gcd_dvd_left d x.f1.f1
      obtain ⟨q, hq⟩ := Int.gcd_dvd_right d x.f1.f1
      generalize (Int.gcd d x.f1.f1 : Int) = g at *
      have ep : Int.tdiv d g = p := by rw [hp]; exact Int.mul_tdiv_cancel_left _ (by omega)
      have p0 : 0 < p := by
        rcases Int.lt_or_le 0 p with h | h
        · exact h
        · have : g * p ≤ 0 := Int.mul_nonpos_of_nonneg_of_nonpos (by omega) h
          omega
      have pd : p ≤ d := by
        have : 1 * p ≤ g * p := Int.mul_le_mul_of_nonneg_right (by omega) (by omega)
        omega
      have b1 : p * x.f1.f1 ≤ 16777216 * 4096 := Int.mul_le_mul (by omega) (by omega) (by omega) (by omega)
      have b0 : 0 < p * x.f1.f1 := Int.mul_pos p0 c6
      rw [ep, RwC.wr (x := p) (by omega) (by omega), RwC.wr (x := p * x.f1.f1) (by omega) (by omega)]
      by_cases c7 : p * x.f1.f1 > 16777216
      · rw [if_pos c7]; exact ⟨false, rfl, fun e => (by cases e)⟩
      rw [if_neg c7]
      refine step _ (by omega) (by omega) ⟨q, ?_⟩ (fun _ => ⟨p, Int.mul_comm _ _⟩)
      calc p * x.f1.f1 = p * (g * q) := by rw [← hq]
        _ = d * q := by rw [hp, ← Int.mul_assoc, Int.mul_comm p g]
    · rw [if_neg c6, if_neg (by omega)]
      exact step d h1 h2 (Int.dvd_refl d) (fun e => absurd e c6)
theorem small_f (l : List S39) (j : Nat) (hj : 2 * l.length + 1 ≤ j) : ∃ b, evenhandedlaw18_Small.f (K0 + j) l = some b ∧ (b = true → ∃ M, Mb M ∧ l.length ≤ 41 ∧ ∀ x ∈ l, Sml M x) := by
  have h := small_at l l.length 0 1 (j - 2 * l.length - 1) (by omega) (by omega) (by decide) (by decide) (by simp)
  rw [show K0 + 2 * l.length + 1 + (j - 2 * l.length - 1) = K0 + j by omega] at h
  exact h
theorem Sml.ok {M : Int} (hM : Mb M) {x : S39} (h : Sml M x) : OkS M (to49 x) := by
  have h1 := h.n
  have h2 := h.d
  refine ⟨by show I x.f1.f0; unfold I; omega, by show I x.f1.f1; unfold I; omega, fun hlow => ?_⟩
  have hlow' : 0 < x.f1.f1 ∧ Int.gcd x.f1.f0 x.f1.f1 = 1 := of_decide_eq_true hlow
  obtain ⟨q, hq⟩ := h.dvd hlow'.1
  have hMl := hM.le
  have hMp := hM.pos
  have q0 : 0 < q := by
    rcases Int.lt_or_le 0 q with h | h
    · exact h
    · have : x.f1.f1 * q ≤ 0 := Int.mul_nonpos_of_nonneg_of_nonpos (by omega) h
      omega
  have ql : q ≤ M := by
    have : 1 * q ≤ x.f1.f1 * q := Int.mul_le_mul_of_nonneg_right (by omega) (by omega)
    omega
  refine ⟨x.f1.f0 * q, ?_, ?_⟩
  · unfold Sm
    rw [Int.natAbs_mul]
    have : x.f1.f0.natAbs * q.natAbs ≤ 1048576 * 16777216 := Nat.mul_le_mul h1 (by omega)
    omega
  · have e : red (x.f1.f0 * q) M = (x.f1.f0, x.f1.f1) := (red_Q (n := x.f1.f0 * q) hMp).unique (d' := x.f1.f1) (n' := x.f1.f0) (Q.self (x := (x.f1.f0, x.f1.f1)) ⟨hlow'.1, hlow'.2⟩) (by rw [hq, Int.mul_assoc, Int.mul_comm q x.f1.f1])
    show (⟨x.f1.f0, x.f1.f1⟩ : S37) = ⟨(red (x.f1.f0 * q) M).1, (red (x.f1.f0 * q) M).2⟩
    rw [e]
theorem layI_len (M s t : Int) : ∀ (xs : List Sh) (core a : Int) (out : List S41), (layI M s t xs core a out).2.2.length ≤ out.length + 2 * xs.length
  | [], core, a, out => by simp [layI]
  | x :: r, core, a, out => by
    have h1 : (stp M s t core a x.1 x.2.2 x.2.1 out).2.2.length ≤ out.length + 2 := by
      unfold stp
      repeat' split
      all_goals simp
    have h2 := layI_len M s t r (stp M s t core a x.1 x.2.2 x.2.1 out).1 (stp M s t core a x.1 x.2.2 x.2.1 out).2.1 (stp M s t core a x.1 x.2.2 x.2.1 out).2.2
    rw [layI]
    simp only [List.length_cons]
    omega
end Go.Proofs.Ytkgafogkeaaniaa.SmF
