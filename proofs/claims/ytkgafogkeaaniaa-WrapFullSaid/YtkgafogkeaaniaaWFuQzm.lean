/- WrapFull: the plain law. No condition. -/
import Derived.Test.YtkgafogkeaaniaaWFuPzm
import Derived.Test.YtkgafogkeaaniaaWlYzm
import Derived.Test.YtkgafogkeaaniaaRfXzm
set_option linter.unusedVariables false
set_option linter.unusedSimpArgs false
namespace Go.Proofs.Ytkgafogkeaaniaa.WFuQ
open Go.RowKit Go.Proofs.Ytkgafogkeaaniaa.PW Go.Proofs.YtkgafogkeaaniaaW.PrintWords Go.Proofs.Ytkgafogkeaaniaa.RwC Go.Proofs.Ytkgafogkeaaniaa.RwV WhPlain RaPlain Go.Proofs.Ytkgafogkeaaniaa.WlB Go.Proofs.Ytkgafogkeaaniaa.WlC Go.Proofs.Ytkgafogkeaaniaa.WlX Go.Proofs.Ytkgafogkeaaniaa.WlY Go.Proofs.Ytkgafogkeaaniaa.RfX
/-- Pieces one behind the other, from a place to a place. -/
def Chain (M s t : Int) : List S41 → Int → Int → Int → Int → Prop
  | [], c, a, c', a' => c = c' ∧ a = a'
  | p :: r, c, a, c', a' => ∃ b, p.f1 = c ∧ p.f3 = rt M a ∧ p.f4 = rt M b ∧ ((b = t ∧ Chain M s t r (c + 1) s c' a') ∨ (b ≠ t ∧ Chain M s t r c b c' a'))
theorem Chain.app {M s t : Int} : ∀ (l : List S41) {c a c1 a1 c2 a2 : Int} {r : List S41}, Chain M s t l c a c1 a1 → Chain M s t r c1 a1 c2 a2 → Chain M s t (l ++ r) c a c2 a2
  | [], c, a, c1, a1, c2, a2, r, h, h2 => by obtain ⟨rfl, rfl⟩ := h; exact h2
  | p :: l, c, a, c1, a1, c2, a2, r, h, h2 => by
    obtain ⟨b, e1, e2, e3, h⟩ := h
    refine ⟨b, e1, e2, e3, ?_⟩
    rcases h with ⟨hb, h⟩ | ⟨hb, h⟩
    · exact Or.inl ⟨hb, Chain.app l h h2⟩
    · exact Or.inr ⟨hb, Chain.app l h h2⟩
theorem stp_chain (M s t core a id : Int) (sl : Bool) (l : Int) (hl : 0 ≤ l) (ha : s ≤ a) (hat : a < t) (hls : l ≤ t - s) (out : List S41) (h : Chain M s t out 0 s core a) :
    Chain M s t (stp M s t core a id sl l out).2.2 0 s (stp M s t core a id sl l out).1 (stp M s t core a id sl l out).2.1 := by
  unfold stp
  split
  · exact h
  split
  · exact h.app _ ⟨a + l, rfl, rfl, rfl, Or.inr ⟨by omega, rfl, rfl⟩⟩
  split
  · exact h.app _ ⟨t, rfl, rfl, rfl, Or.inl ⟨rfl, rfl, rfl⟩⟩
  · exact h.app _ ⟨t, rfl, rfl, rfl, Or.inl ⟨rfl, s + (l - (t - a)), rfl, rfl, rfl, Or.inr ⟨by omega, rfl, rfl⟩⟩⟩
theorem layI_chain {M s t fr tt : Int} (L : Ln M s t fr tt) : ∀ (xs : List Sh) (core a : Int) (out : List S41), (∀ x ∈ xs, 0 ≤ x.2.1 ∧ x.2.1 ≤ t - s) → s ≤ a → a < t → Chain M s t out 0 s core a →
    Chain M s t (layI M s t xs core a out).2.2 0 s (layI M s t xs core a out).1 (layI M s t xs core a out).2.1 ∧ s ≤ (layI M s t xs core a out).2.1 ∧ (layI M s t xs core a out).2.1 < t ∧
    (layI M s t xs core a out).2.2.length ≤ out.length + 2 * xs.length ∧ (layI M s t xs core a out).1 * (t - s) + ((layI M s t xs core a out).2.1 - s) = core * (t - s) + (a - s) + sumI xs
  | [], core, a, out, _, h1, h2, h => ⟨h, h1, h2, by simp [layI], by simp [layI, sumI]⟩
  | x :: r, core, a, out, hx, h1, h2, h => by
    obtain ⟨p1, p2⟩ := hx x (List.mem_cons_self ..)
    obtain ⟨_, ⟨o3, o4⟩, o5, o6⟩ := stp_ok L core a x.1 x.2.2 x.2.1 p1 h1 h2 p2 out
    obtain ⟨q1, q2, q3, q4, q5⟩ := layI_chain L r _ _ _ (fun y hy => hx y (List.mem_cons_of_mem _ hy)) o3 o4 (stp_chain M s t core a x.1 x.2.2 x.2.1 p1 h1 h2 p2 out h)
    rw [layI]
    refine ⟨q1, q2, q3, ?_, ?_⟩
    · rw [List.length_cons]; omega
    · rw [q5, o6]
      show _ + x.2.1 + sumI r = _ + (x.2.1 + sumI r)
      omega
theorem rd_drop41 {l : List S41} {j : Nat} (hj : j < l.length) : l.drop j = rd_T41 l (j : Int) :: l.drop (j + 1) := by
  rw [List.drop_eq_getElem_cons hj]
  congr 1
  unfold rd_T41
  rw [Int.toNat_natCast, List.getD_eq_getElem?_getD, List.getElem?_eq_getElem hj]
  rfl
theorem l2_at {M N K : Int} (hM : Mb M) (P : List S41) (hP : P.length ≤ 1000) : ∀ (rest : List S41) (i : Nat) (c a c' a' : Int) (k : Nat), P.drop i = rest → i + rest.length = P.length → 0 ≤ c → c + rest.length < 100000 → Chain M 0 (N * M) rest c a c' a' → 2 * rest.length + 1 ≤ k →
    evenhandedlaw18_WrapFull.l2 k K N P c (i : Int) (red a M).1 (red a M).2 = some (c' == K)
  | [], i, c, a, c', a', k, hd, hi, hc, hc2, h, hk => by
    obtain ⟨rfl, rfl⟩ := h
    obtain ⟨k, rfl⟩ : ∃ j, k = j + 1 := ⟨k - 1, by simp at hk; omega⟩
    rw [evenhandedlaw18_WrapFull.l2, if_neg (by simp at hi; omega)]
  | p :: r, i, c, a, c', a', k, hd, hi, hc, hc2, h, hk => by
    simp only [List.length_cons] at hi hk hc2
    obtain ⟨k, rfl⟩ : ∃ j, k = j + 2 := ⟨k - 2, by omega⟩
    have hil : i < P.length := by omega
    have hd' := hd
    rw [rd_drop41 hil] at hd'
    obtain ⟨e1, e2⟩ := List.cons.inj hd'
    obtain ⟨b, g1, g3, g4, hb⟩ := h
    have w1 : wrap64 ((i : Int) + 1) = ((i + 1 : Nat) : Int) := by unfold wrap64; omega
    have f30 : p.f3.f0 = (red a M).1 := congrArg S37.f0 g3
    have f31 : p.f3.f1 = (red a M).2 := congrArg S37.f1 g3
    have f40 : p.f4.f0 = (red b M).1 := congrArg S37.f0 g4
    have f41 : p.f4.f1 = (red b M).2 := congrArg S37.f1 g4
    rw [evenhandedlaw18_WrapFull.l2, if_pos (by omega), if_pos (by omega), e1, if_pos g1, f30, f31, evenhandedlaw18_WrapFull.j3, if_neg (by simp), if_pos (by omega), if_pos (by omega), e1, f40, f41]
    have ew : red (N * M) M = (N, 1) := whole_red hM N
    rcases hb with ⟨hb, h⟩ | ⟨hb, h⟩
    · subst hb
      have w2 : wrap64 (c + 1) = c + 1 := by unfold wrap64; omega
      rw [if_pos (by rw [ew]; simp), w1, w2]
      have e0 : red 0 M = (0, 1) := by have := whole_red hM 0; rwa [Int.zero_mul] at this
      have := l2_at hM P hP r (i + 1) (c + 1) 0 c' a' k e2 (by omega) (by omega) (by omega) h (by omega) (K := K) (N := N)
      rw [e0] at this
      exact this
    · rw [if_neg (fun hh => hb (by
        simp only [Bool.and_eq_true, beq_iff_eq] at hh
        exact red_inj hM ((Prod.ext hh.1 hh.2 : red b M = (N, 1)).trans ew.symm))), w1]
      exact l2_at hM P hP r (i + 1) c b c' a' k e2 (by omega) hc (by omega) h (by omega)
/-- As the reference has a share. -/
def toR (M : Int) (x : Sh) : S39 := ⟨x.1, rt M x.2.1, x.2.2⟩
theorem rd39 {l : List S39} {j : Nat} (hj : j < l.length) : l[j]? = some (rd_T39 l (j : Int)) := by
  unfold rd_T39
  rw [Int.toNat_natCast, List.getD_eq_getElem?_getD, List.getElem?_eq_getElem hj]
  rfl
theorem rows_at (l : List S39) (hl : l.length ≤ 1000) : ∀ (m i k : Nat), i + m = l.length → m + 1 ≤ k → evenhandedlaw18_Rows.l0 k l ((l.take i).map fun x => (⟨x.f0, ⟨x.f1.f0, x.f1.f1⟩, x.f2⟩ : S49)) (i : Int) = some (l.map fun x => (⟨x.f0, ⟨x.f1.f0, x.f1.f1⟩, x.f2⟩ : S49))
  | 0, i, k, hi, hk => by
    obtain ⟨k, rfl⟩ : ∃ j, k = j + 1 := ⟨k - 1, by omega⟩
    rw [evenhandedlaw18_Rows.l0, if_neg (by omega), List.take_of_length_le (by omega)]
  | m + 1, i, k, hi, hk => by
    obtain ⟨k, rfl⟩ : ∃ j, k = j + 1 := ⟨k - 1, by omega⟩
    have w1 : wrap64 ((i : Int) + 1) = ((i + 1 : Nat) : Int) := by unfold wrap64; omega
    rw [evenhandedlaw18_Rows.l0, if_pos (by omega), if_pos (by omega), if_pos (by simp; omega), w1]
    have h := rows_at l hl m (i + 1) k (by omega) (by omega)
    rw [List.take_add_one, rd39 (by omega), List.map_append] at h
    exact h
theorem rows_f (l : List S39) (hl : l.length ≤ 1000) (k : Nat) (hk : l.length + 1 ≤ k) : evenhandedlaw18_Rows.f k l = some (l.map fun x => (⟨x.f0, ⟨x.f1.f0, x.f1.f1⟩, x.f2⟩ : S49)) := rows_at l hl l.length 0 k (by omega) hk
theorem rows_toR (M : Int) (xs : List Sh) : (xs.map (toR M)).map (fun x => (⟨x.f0, ⟨x.f1.f0, x.f1.f1⟩, x.f2⟩ : S49)) = xs.map (toS M) := by
  rw [List.map_map]
  rfl
theorem awake_f : evenhandedlaw18_awake.f = some true := by
  have hM : Mb 3 := ⟨by decide, by decide⟩
  have L : Ln 3 0 3 0 1 := ⟨hM, by decide, by decide, by decide, by decide, by decide⟩
  have h := lay_at L (co := 2) (by decide) (by decide) [(1, 2, false), (2, 2, false), (3, 2, false)] (by simp) (by decide) (by decide)
  rw [if_neg (by decide)] at h
  unfold evenhandedlaw18_awake.f wrap_Lay.f
  have e : ([(⟨1, (⟨2, 3⟩ : S37), false⟩ : S49), (⟨2, (⟨2, 3⟩ : S37), false⟩ : S49), (⟨3, (⟨2, 3⟩ : S37), false⟩ : S49)] : List S49) = [((1 : Int), (2 : Int), false), (2, 2, false), (3, 2, false)].map (toS 3) := by kernel_rfl
  rw [e, h, Option.bind_some]
  rfl
theorem sumI_app (ys : List Sh) (z : Sh) : sumI (ys ++ [z]) = sumI ys + z.2.1 := by
  induction ys with
  | nil => simp [sumI]
  | cons y r ih => show y.2.1 + sumI (r ++ [z]) = y.2.1 + sumI r + z.2.1; rw [ih]; omega
theorem hM6 : Mb 6 := ⟨by decide, by decide⟩
section
variable {N K : Int} (hN : 1 ≤ N ∧ N ≤ 12) (hK : 1 ≤ K ∧ K ≤ 5)
include hN hK
omit hK in
theorem line : Ln 6 0 (N * 6) 0 N := ⟨hM6, by omega, rfl, by omega, by omega, by omega⟩
theorem fin_at (ys : List Sh) (k : Nat) (hy : ∀ y ∈ ys, 0 ≤ y.2.1 ∧ y.2.1 ≤ N * 6) (hl : ys.length ≤ 60) (hs : sumI ys = N * 6 * K) (hk : 400 ≤ k) :
    ((evenhandedlaw18_Rows.f k (ys.map (toR 6))).bind fun t296 => ((wrap_Lay.f t296 0 N K).bind fun bt299 => (if bt299.2 = 0 then (evenhandedlaw18_WrapFull.l2 k K N bt299.1 0 0 0 1) else (some false)))) = some true := by
  have L := line hN
  have h := lay_at L (co := K) (by omega) (by omega) ys (fun y h => by have := hy y h; omega) (by omega) (by omega)
  rw [if_neg (by rw [hs, Int.sub_zero]; omega)] at h
  rw [rows_f _ (by simp; omega) k (by simp; omega), Option.bind_some, rows_toR, wrap_Lay.f, h, Option.bind_some, if_pos rfl]
  obtain ⟨q1, q2, q3, q4, q5⟩ := layI_chain L ys 0 0 [] (fun y h => by have := hy y h; omega) (Int.le_refl _) L.lt ⟨rfl, rfl⟩
  simp only [List.length_nil] at q4
  have e0 : red 0 6 = (0, 1) := by have := whole_red hM6 0; rwa [Int.zero_mul] at this
  have := l2_at hM6 (N := N) (K := K) (layI 6 0 (N * 6) ys 0 0 []).2.2 (by omega) (layI 6 0 (N * 6) ys 0 0 []).2.2 0 0 0 _ _ k rfl (by simp) (by omega) (by omega) q1 (by omega)
  rw [e0] at this
  simp only [] at this ⊢
  rw [show ((0 : Nat) : Int) = 0 from rfl] at this
  rw [this]
  congr 1
  rw [beq_iff_eq]
  generalize (layI 6 0 (N * 6) ys 0 0 []).1 = c at *
  generalize (layI 6 0 (N * 6) ys 0 0 []).2.1 = a at *
  rw [hs] at q5
  have q6 : c * (N * 6) + a = N * 6 * K := by rw [Int.sub_zero] at q5; omega
  have q7 : (K - c) * (N * 6) = a := by rw [Int.sub_mul, Int.mul_comm K]; omega
  rcases Int.lt_trichotomy (K - c) 0 with h | h | h
  · exfalso
    have := Int.mul_le_mul_of_nonneg_right (show K - c ≤ -1 by omega) (show 0 ≤ N * 6 by omega)
    omega
  · omega
  · exfalso
    have := Int.mul_le_mul_of_nonneg_right (show 1 ≤ K - c by omega) (show 0 ≤ N * 6 by omega)
    omega
omit hN hK in
theorem wholeN : red N 1 = (red (N * 6) 6) := by
  have h1 := whole_red (M := 1) ⟨by decide, by decide⟩ N
  rw [Int.mul_one] at h1
  rw [h1, whole_red hM6]
theorem l1_at : ∀ (m : Nat) (i : Int) (ys : List Sh) (Lf : Int) (k : Nat), Lf ≤ N * 6 * m → m ≤ 10 → 0 ≤ i → i + m ≤ 100 → ys.length + m ≤ 60 → (∀ y ∈ ys, 0 ≤ y.2.1 ∧ y.2.1 ≤ N * 6) → 0 ≤ Lf → Lf + sumI ys = N * 6 * K → 9223372036854775808 + 500 + m ≤ k →
    evenhandedlaw18_WrapFull.l1 k K N (ys.map (toR 6)) i (red Lf 6).1 (red Lf 6).2 = some true := by
  intro m
  induction m with
  | zero =>
    intro i ys Lf k h1 hm h2 h3 h4 h5 h6 h7 hk
    obtain ⟨k, rfl⟩ : ∃ j, k = j + 1 := ⟨k - 1, by omega⟩
    obtain rfl : Lf = 0 := by omega
    rw [evenhandedlaw18_WrapFull.l1, if_neg (by simp [red])]
    exact fin_at hN hK ys k h5 (by omega) (by omega) (by omega)
  | succ m ih =>
    intro i ys Lf k h1 hm h2 h3 h4 h5 h6 h7 hk
    obtain ⟨k, rfl⟩ : ∃ j, k = j + 1 := ⟨k - 1, by omega⟩
    have h1' : Lf ≤ N * 6 * m + N * 6 := by
      rw [show ((m + 1 : Nat) : Int) = (m : Int) + 1 from rfl, Int.mul_add, Int.mul_one] at h1
      exact h1
    have s0 := sumI_nonneg ys (fun y h => (h5 y h).1)
    have hKN : N * 6 * K ≤ N * 6 * 5 := Int.mul_le_mul_of_nonneg_left hK.2 (by omega)
    rw [evenhandedlaw18_WrapFull.l1]
    by_cases hp : 0 < Lf
    rotate_left
    · obtain rfl : Lf = 0 := by omega
      rw [if_neg (by simp [red])]
      exact fin_at hN hK ys k h5 (by omega) (by omega) (by omega)
    rw [if_pos ((pos_red hM6).2 hp), of_f (n := N) (d := 1) (by omega) (by decide) (by decide) k (by omega), Option.bind_some, wholeN]
    simp only []
    obtain ⟨k, rfl⟩ : ∃ j, k = j + 1 := ⟨k - 1, by omega⟩
    have w1 : wrap64 (i + 1) = i + 1 := by unfold wrap64; omega
    have sap : ∀ (z : Sh), (ys.map (toR 6)) ++ [toR 6 z] = (ys ++ [z]).map (toR 6) := fun z => by simp
    have ssum := fun z => sumI_app ys z
    rw [less_f hM6 (a := Lf) (b := N * 6) (by unfold Sm; omega) (by unfold Sm; omega) k, Option.bind_some]
    have hlen : (ys.map (toR 6)).length < 4398046511104 := by simp; omega
    by_cases c : Lf < N * 6
    · rw [if_pos (decide_eq_true c), minus_f hM6 (a := Lf) (b := Lf) (by omega) (by omega) (k + 1) (by omega), Option.bind_some, if_pos hlen, w1]
      have hz := sap (wrap64 (100 + i), Lf, false)
      rw [show toR 6 (wrap64 (100 + i), Lf, false) = (⟨wrap64 (100 + i), (⟨(red Lf 6).1, (red Lf 6).2⟩ : S37), false⟩ : S39) from rfl] at hz
      rw [hz]
      simp only []
      exact ih (i + 1) _ (Lf - Lf) (k + 1) (by have : (0 : Int) ≤ N * 6 * m := Int.mul_nonneg (by omega) (by omega); omega) (by omega) (by omega) (by omega) (by simp; omega) (fun y hy => by
        rcases List.mem_append.1 hy with h | h
        · exact h5 y h
        · rw [List.mem_singleton] at h; subst h; exact ⟨by show 0 ≤ Lf; omega, by show Lf ≤ _; omega⟩) (by omega) (by rw [ssum]; show _ + (_ + Lf) = _; omega) (by omega)
    · rw [if_neg (by rw [decide_eq_false c]; decide), minus_f hM6 (a := Lf) (b := N * 6) (by omega) (by omega) (k + 1) (by omega), Option.bind_some, if_pos hlen, w1]
      have hz := sap (wrap64 (100 + i), N * 6, false)
      rw [show toR 6 (wrap64 (100 + i), N * 6, false) = (⟨wrap64 (100 + i), (⟨(red (N * 6) 6).1, (red (N * 6) 6).2⟩ : S37), false⟩ : S39) from rfl] at hz
      rw [hz]
      simp only []
      exact ih (i + 1) _ (Lf - N * 6) (k + 1) (by omega) (by omega) (by omega) (by omega) (by simp; omega) (fun y hy => by
        rcases List.mem_append.1 hy with h | h
        · exact h5 y h
        · rw [List.mem_singleton] at h; subst h; exact ⟨by show 0 ≤ N * 6; omega, by show N * 6 ≤ _; omega⟩) (by omega) (by rw [ssum]; show _ + (_ + N * 6) = _; omega) (by omega)
omit hN hK in
theorem rd_i {l : List Int} {j : Nat} (hj : j < l.length) : l.drop j = rd l (j : Int) :: l.drop (j + 1) := by
  rw [List.drop_eq_getElem_cons hj]
  congr 1
  unfold rd
  rw [Int.toNat_natCast, List.getD_eq_getElem?_getD, List.getElem?_eq_getElem hj]
  rfl
theorem l0_at (X : List Int) (hX : X.length ≤ 30) (hw : ∀ x ∈ X, 0 ≤ x ∧ x ≤ 255) : ∀ (rest : List Int) (i : Nat) (ys : List Sh) (Lf : Int) (k : Nat), X.drop i = rest → i + rest.length = X.length → ys.length = i → (∀ y ∈ ys, 0 ≤ y.2.1 ∧ y.2.1 ≤ N * 6) → 0 ≤ Lf → Lf + sumI ys = N * 6 * K → 9223372036854775808 + 600 + rest.length ≤ k →
    evenhandedlaw18_WrapFull.l0 k X K N (ys.map (toR 6)) (i : Int) (red Lf 6).1 (red Lf 6).2 = some true := by
  intro rest
  induction rest with
  | nil =>
    intro i ys Lf k hd hi h4 h5 h6 h7 hk
    obtain ⟨k, rfl⟩ : ∃ j, k = j + 1 := ⟨k - 1, by omega⟩
    rw [evenhandedlaw18_WrapFull.l0, if_neg (by simp at hi; omega)]
    have s0 := sumI_nonneg ys (fun y h => (h5 y h).1)
    have hKN : N * 6 * K ≤ N * 6 * 5 := Int.mul_le_mul_of_nonneg_left hK.2 (by omega)
    simp only [List.length_nil, Nat.add_zero] at hi hk
    exact l1_at hN hK 5 0 ys Lf k (by omega) (by omega) (by omega) (by omega) (by omega) h5 h6 h7 (by omega)
  | cons x r ih =>
    intro i ys Lf k hd hi h4 h5 h6 h7 hk
    simp only [List.length_cons] at hi hk
    obtain ⟨k, rfl⟩ : ∃ j, k = j + 2 := ⟨k - 2, by omega⟩
    have s0 := sumI_nonneg ys (fun y h => (h5 y h).1)
    have hKN : N * 6 * K ≤ N * 6 * 5 := Int.mul_le_mul_of_nonneg_left hK.2 (by omega)
    have hil : i < X.length := by omega
    have hd' := hd
    rw [rd_i hil] at hd'
    obtain ⟨e1, e2⟩ := List.cons.inj hd'
    have hx := hw x (List.mem_of_mem_drop (hd ▸ List.mem_cons_self .. : x ∈ X.drop i))
    obtain ⟨c, hc⟩ : ∃ c, c = 1 + x % 6 := ⟨_, rfl⟩
    have hc1 : 1 ≤ c ∧ c ≤ 6 := by omega
    have b1 : 0 < N * c := Int.mul_pos (by omega) (by omega)
    have b2 : N * c ≤ N * 6 := Int.mul_le_mul_of_nonneg_left hc1.2 (by omega)
    rw [evenhandedlaw18_WrapFull.l0, if_pos (by omega), if_pos (by omega), e1, RwC.wr (x := x) (by omega) (by omega), RwC.tm (by omega), RwC.wr (x := 1 + x % 6) (by omega) (by omega), ← hc, RwC.wr (x := N * c) (by omega) (by omega), of_f (n := N * c) (d := 6) (by omega) (by decide) (by decide) (k + 1) (by omega), Option.bind_some]
    simp only []
    generalize N * c = b at *
    have w1 : wrap64 ((i : Int) + 1) = ((i + 1 : Nat) : Int) := by unfold wrap64; omega
    have sap : ∀ (z : Sh), (ys.map (toR 6)) ++ [toR 6 z] = (ys ++ [z]).map (toR 6) := fun z => by simp
    have ssum := fun z => sumI_app ys z
    rw [less_f hM6 (a := Lf) (b := b) (by unfold Sm; omega) (by unfold Sm; omega) k, Option.bind_some]
    have hlen : (ys.map (toR 6)).length < 4398046511104 := by
      have q : ys.length ≤ 30 := by rw [h4]; exact Nat.le_trans (Nat.le_of_lt hil) hX
      rw [List.length_map]
      exact Nat.lt_of_le_of_lt q (by decide)
    by_cases c : Lf < b
    · rw [if_pos (decide_eq_true c), minus_f hM6 (a := Lf) (b := Lf) (by omega) (by omega) (k + 1) (by omega), Option.bind_some, if_pos hlen, w1]
      have hz := sap ((i : Int), Lf, false)
      rw [show toR 6 ((i : Int), Lf, false) = (⟨(i : Int), (⟨(red Lf 6).1, (red Lf 6).2⟩ : S37), false⟩ : S39) from rfl] at hz
      rw [hz]
      simp only []
      exact ih (i + 1) _ (Lf - Lf) (k + 1) e2 (by omega) (by simp; omega) (fun y hy => by
        rcases List.mem_append.1 hy with h | h
        · exact h5 y h
        · rw [List.mem_singleton] at h; subst h; exact ⟨by show 0 ≤ Lf; omega, by show Lf ≤ _; omega⟩) (by omega) (by rw [ssum]; show _ + (_ + Lf) = _; omega) (by omega)
    · rw [if_neg (by rw [decide_eq_false c]; decide), minus_f hM6 (a := Lf) (b := b) (by omega) (by omega) (k + 1) (by omega), Option.bind_some, if_pos hlen, w1]
      have hz := sap ((i : Int), b, false)
      rw [show toR 6 ((i : Int), b, false) = (⟨(i : Int), (⟨(red b 6).1, (red b 6).2⟩ : S37), false⟩ : S39) from rfl] at hz
      rw [hz]
      simp only []
      exact ih (i + 1) _ (Lf - b) (k + 1) e2 (by omega) (by simp; omega) (fun y hy => by
        rcases List.mem_append.1 hy with h | h
        · exact h5 y h
        · rw [List.mem_singleton] at h; subst h; exact ⟨by show 0 ≤ b; omega, by show b ≤ _; omega⟩) (by omega) (by rw [ssum]; show _ + (_ + b) = _; omega) (by omega)
end
theorem u8_of {x : Int} (h : (Lit.int .u8 x).wf = true) : 0 ≤ x ∧ x ≤ 255 := by
  have h1 : IntKind.u8.min = 0 := by decide
  have h2 : IntKind.u8.max = 255 := by decide
  simp only [Lit.wf, Bool.and_eq_true, decide_eq_true_eq, h1, h2] at h
  exact ⟨h.1, h.2⟩
theorem pure : evenhandedlaw18_WrapFull.Pure := by
  intro l a1 a2 _ _ hw h1 h2
  have u1 := u8_of h1
  have u2 := u8_of h2
  obtain ⟨F, hF⟩ : ∃ F : Nat, 9223372036854775808 + 1000 ≤ F := ⟨_, Nat.le_refl _⟩
  refine ⟨F, ?_⟩
  unfold evenhandedlaw18_WrapFull.f
  rw [awake_f, Option.bind_some, if_pos rfl]
  by_cases hl : (l.length : Int) > 30
  · rw [if_pos hl]
  rw [if_neg hl, RwC.wr (x := a1) (by omega) (by omega), RwC.wr (x := a2) (by omega) (by omega), RwC.tm (by omega), RwC.tm (by omega), RwC.wr (x := 1 + a1 % 5) (by omega) (by omega), RwC.wr (x := 1 + a2 % 12) (by omega) (by omega)]
  obtain ⟨K, hK0⟩ : ∃ K, K = 1 + a1 % 5 := ⟨_, rfl⟩
  obtain ⟨N, hN0⟩ : ∃ N, N = 1 + a2 % 12 := ⟨_, rfl⟩
  rw [← hK0, ← hN0]
  have hK : 1 ≤ K ∧ K ≤ 5 := by omega
  have hN : 1 ≤ N ∧ N ≤ 12 := by omega
  have b1 : 0 < K * N := Int.mul_pos (by omega) (by omega)
  have b2 : K * N ≤ K * 12 := Int.mul_le_mul_of_nonneg_left hN.2 (by omega)
  rw [RwC.wr (x := K * N) (by omega) (by omega), of_f (n := K * N) (d := 1) (by omega) (by decide) (by decide) _ (by omega), Option.bind_some, wholeN]
  simp only []
  exact l0_at hN hK l (by omega) (fun x hx => u8_of (hw x hx)) l 0 [] (K * N * 6) _ rfl (by simp) rfl (by simp) (by omega) (by simp only [sumI]; rw [Int.mul_comm K N, Int.mul_assoc, Int.mul_comm K 6, ← Int.mul_assoc]; omega) (by omega)
end Go.Proofs.Ytkgafogkeaaniaa.WFuQ
