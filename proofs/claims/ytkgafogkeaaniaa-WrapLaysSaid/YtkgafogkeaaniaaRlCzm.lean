/- The reference's Lay in whole numbers: it answers as the program's. No condition. -/
import Derived.Test.YtkgafogkeaaniaaRlAzm
import Derived.Test.YtkgafogkeaaniaaSmFzm
set_option linter.unusedVariables false
set_option linter.unusedSimpArgs false
set_option linter.unusedSectionVars false
namespace Go.Proofs.Ytkgafogkeaaniaa.RlC
open Go.RowKit Go.Proofs.Ytkgafogkeaaniaa.PW Go.Proofs.YtkgafogkeaaniaaW.PrintWords Go.Proofs.Ytkgafogkeaaniaa.RwC Go.Proofs.Ytkgafogkeaaniaa.RwD Go.Proofs.Ytkgafogkeaaniaa.RwV WhPlain RaPlain Go.Proofs.Ytkgafogkeaaniaa.WlA Go.Proofs.Ytkgafogkeaaniaa.WlB Go.Proofs.Ytkgafogkeaaniaa.WlC Go.Proofs.Ytkgafogkeaaniaa.WlX Go.Proofs.Ytkgafogkeaaniaa.WlY Go.Proofs.Ytkgafogkeaaniaa.RfX Go.Proofs.Ytkgafogkeaaniaa.SmF Go.Proofs.Ytkgafogkeaaniaa.RlA
theorem gcd1 {a b : Int} (ha : a.natAbs ≤ 9223372036854775807) (hb : b.natAbs ≤ 9223372036854775807) (j : Nat) : evenhandedref1_RatMay.f (K0 + j) a b = some (low1 a b) := by
  unfold evenhandedref1_RatMay.f
  by_cases h : b > 0
  · rw [if_pos h, if_neg (by omega), gcd_f ha hb _ (K0_big j), Option.bind_some]
    by_cases c : (Int.gcd a b : Int) = 1
    · rw [if_pos c]
      exact congrArg some (decide_eq_true (show 0 < b ∧ Int.gcd a b = 1 from ⟨h, by omega⟩)).symm
    · rw [if_neg c]
      exact congrArg some (decide_eq_false (show ¬ (0 < b ∧ Int.gcd a b = 1) from fun e => c (by omega))).symm
  · rw [if_neg h]
    exact congrArg some (decide_eq_false (show ¬ (0 < b ∧ Int.gcd a b = 1) from fun e => h e.1)).symm
theorem K0s : ∃ j, K0 = j + 1 := ⟨K0 - 1, by have := K0_big 0; omega⟩
section
variable {M s t fr tt : Int} (L : Ln M s t fr tt) {G : Int} (hG : G = tt - fr)
include L hG
theorem sizeG : red (t - s) M = (G, 1) := by rw [L.ht, L.hs, ← Int.sub_mul, hG]; exact whole_red L.hM _
omit hG in
theorem fromS : red s M = (fr, 1) := by rw [L.hs]; exact whole_red L.hM fr
theorem less_k {a b : Int} (ha : Sm a) (hb : Sm b) (j : Nat) : evenhandedref1_Less.f (K0 + j) (red a M).1 (red a M).2 (red b M).1 (red b M).2 = some (decide (a < b)) := by
  obtain ⟨k, hk⟩ := K0s
  rw [show K0 + j = (k + j) + 1 by omega]
  exact less_f L.hM ha hb (k + j)
theorem innR_0 (k : Nat) (core a id : Int) (sl : Bool) (l : Int) (hl : l ≤ 0) (F : Nat) (out : List S41) : innR k fr G id sl (F + 1) core (red a M).1 (red a M).2 (red l M).1 (red l M).2 out = some (core, (red a M).1, (red a M).2, out) := by
  unfold innR
  rw [if_neg (fun h => by have := (pos_red L.hM).1 h; omega)]
theorem innR_s (j : Nat) (core a id : Int) (sl : Bool) (l : Int) (hl : 0 < l) (ha : s ≤ a) (hat : a < t) (hls : l ≤ t - s) (F : Nat) (out : List S41) (hc : 0 ≤ core) (hc1 : core < 1000) (ho : out.length < 1000) :
    innR (K0 + j) fr G id sl (F + 1) core (red (a - s) M).1 (red (a - s) M).2 (red l M).1 (red l M).2 out =
      if t - a ≤ l then innR (K0 + j) fr G id sl F (core + 1) (red (s - s) M).1 (red (s - s) M).2 (red (l - (t - a)) M).1 (red (l - (t - a)) M).2 (out ++ [pc M core id sl a t])
      else innR (K0 + j) fr G id sl F core (red (a + l - s) M).1 (red (a + l - s) M).2 (red 0 M).1 (red 0 M).2 (out ++ [pc M core id sl a (a + l)]) := by
  have hM := L.hM
  have b1 := L.bs
  have b2 := L.bt
  have hk : 9223372036854775808 < K0 + j := K0_big j
  have eG := sizeG L hG
  have eS := fromS L
  have e0 : red (s - s) M = (0, 1) := by rw [show s - s = 0 * M by omega]; exact whole_red hM 0
  rw [innR, if_pos ((pos_red hM).2 hl)]
  have q1 := minus_f hM (a := t - s) (b := a - s) (by omega) (by omega) (K0 + j) hk
  rw [eG, show t - s - (a - s) = t - a by omega] at q1
  rw [q1, Option.bind_some, less_k L hG (a := t - a) (b := l) (by unfold Sm; omega) (by unfold Sm; omega) j, Option.bind_some]
  simp only []
  obtain ⟨p, hp⟩ : ∃ p, p = if t - a < l then t - a else l := ⟨_, rfl⟩
  have hp0 : 0 < p := by rw [hp]; split <;> omega
  have hpl : p ≤ l := by rw [hp]; split <;> omega
  have hpt : a + p ≤ t := by rw [hp]; split <;> omega
  have f1 : (if decide (t - a < l) = true then (red (t - a) M).1 else (red l M).1) = (red p M).1 := by
    rw [hp]
    by_cases c : t - a < l
    · rw [if_pos (decide_eq_true c), if_pos c]
    · rw [if_neg (by simpa using c), if_neg c]
  have f2 : (if decide (t - a < l) = true then (red (t - a) M).2 else (red l M).2) = (red p M).2 := by
    rw [hp]
    by_cases c : t - a < l
    · rw [if_pos (decide_eq_true c), if_pos c]
    · rw [if_neg (by simpa using c), if_neg c]
  rw [f1, f2, plus_f hM (a := a - s) (b := p) (by omega) (by omega) (K0 + j) hk, Option.bind_some, if_pos ((pos_red hM).2 hp0)]
  have q2 := plus_f hM (a := s) (b := a - s) (by omega) (by omega) (K0 + j) hk
  rw [eS, show s + (a - s) = a by omega] at q2
  have q3 := plus_f hM (a := s) (b := a - s + p) (by omega) (by omega) (K0 + j) hk
  rw [eS, show s + (a - s + p) = a + p by omega] at q3
  have q4 := less_k L hG (a := a - s + p) (b := t - s) (by unfold Sm; omega) (by unfold Sm; omega) j
  rw [eG] at q4
  rw [q2, Option.bind_some]
  simp only []
  rw [q3, Option.bind_some, minus_f hM (a := l) (b := p) (by omega) (by omega) (K0 + j) hk, Option.bind_some]
  simp only []
  rw [q4, Option.bind_some, if_pos ⟨hc, hc1, ho⟩]
  by_cases c : t - a ≤ l
  · have hpe : p = t - a := by rw [hp]; split <;> omega
    rw [if_pos c, if_neg (by simp; omega), e0, pc, rt, rt, hpe, show a + (t - a) = t by omega]
  · have hpe : p = l := by rw [hp]; split <;> omega
    rw [if_neg c, if_pos (decide_eq_true (by omega)), pc, rt, rt, hpe, show a - s + l = a + l - s by omega, show l - l = 0 by omega]
theorem innR_stp (j : Nat) (core a id : Int) (sl : Bool) (l : Int) (hl : 0 ≤ l) (ha : s ≤ a) (hat : a < t) (hls : l ≤ t - s) (F : Nat) (out : List S41) (hc : 0 ≤ core) (hc1 : core + 1 < 1000) (ho : out.length + 1 < 1000) :
    innR (K0 + j) fr G id sl (F + 3) core (red (a - s) M).1 (red (a - s) M).2 (red l M).1 (red l M).2 out = some ((stp M s t core a id sl l out).1, (red ((stp M s t core a id sl l out).2.1 - s) M).1, (red ((stp M s t core a id sl l out).2.1 - s) M).2, (stp M s t core a id sl l out).2.2) := by
  unfold stp
  by_cases h0 : l ≤ 0
  · rw [innR_0 L hG _ _ _ _ _ _ h0, if_pos h0]
  rw [if_neg h0, innR_s L hG j core a id sl l (by omega) ha hat hls (F + 2) out hc (by omega) (by omega)]
  by_cases h1 : l < t - a
  · rw [if_pos h1, if_neg (by omega), innR_0 L hG _ _ _ _ _ _ (Int.le_refl _)]
  rw [if_neg h1, if_pos (by omega)]
  by_cases h2 : l = t - a
  · rw [if_pos h2, show l - (t - a) = 0 by omega, innR_0 L hG _ _ _ _ _ _ (Int.le_refl _)]
  rw [if_neg h2, innR_s L hG j (core + 1) s id sl (l - (t - a)) (by omega) (Int.le_refl _) L.lt (by omega) (F + 1) _ (by omega) hc1 (by simp; omega), if_neg (by omega), innR_0 L hG _ _ _ _ _ _ (Int.le_refl _)]
  simp
theorem layR_I (j F : Nat) : ∀ (xs : List Sh) (core a : Int) (out : List S41), (∀ x ∈ xs, 0 ≤ x.2.1 ∧ x.2.1 ≤ t - s) → s ≤ a → a < t → 0 ≤ core → core + xs.length < 900 → out.length + 2 * xs.length < 900 →
    layR (K0 + j) (F + 3) fr G (xs.map (toR M)) core (red (a - s) M).1 (red (a - s) M).2 out = some (layI M s t xs core a out).2.2
  | [], core, a, out, _, _, _, _, _, _ => rfl
  | x :: r, core, a, out, hx, h1, h2, h3, h4, h5 => by
    obtain ⟨p1, p2⟩ := hx x (List.mem_cons_self ..)
    simp only [List.length_cons] at h4 h5
    obtain ⟨⟨o1, o2⟩, ⟨o3, o4⟩, o5, _⟩ := stp_ok L core a x.1 x.2.2 x.2.1 p1 h1 h2 p2 out
    rw [List.map_cons, layR, show (toR M x).f1.f0 = (red x.2.1 M).1 from rfl, show (toR M x).f1.f1 = (red x.2.1 M).2 from rfl, show (toR M x).f0 = x.1 from rfl, show (toR M x).f2 = x.2.2 from rfl, innR_stp L hG j core a x.1 x.2.2 x.2.1 p1 h1 h2 p2 F out h3 (by omega) (by omega), Option.bind_some, layI]
    exact layR_I j F r (stp M s t core a x.1 x.2.2 x.2.1 out).1 (stp M s t core a x.1 x.2.2 x.2.1 out).2.1 (stp M s t core a x.1 x.2.2 x.2.1 out).2.2 (fun y hy => hx y (List.mem_cons_of_mem _ hy)) o3 o4 (by omega) (by omega) (by omega)
theorem sumR_I (j : Nat) : ∀ (xs : List Sh) (a : Int), (∀ x ∈ xs, 0 ≤ x.2.1 ∧ x.2.1 ≤ 1099511627776) → 0 ≤ a → a + 1099511627776 * xs.length ≤ 562949953421312 → sumR (K0 + j) (xs.map (toR M)) (red a M).1 (red a M).2 = some ((red (a + sumI xs) M).1, (red (a + sumI xs) M).2)
  | [], a, _, _, _ => by simp [sumR, sumI]
  | x :: r, a, hx, h0, h1 => by
    obtain ⟨x1, x2⟩ := hx x (List.mem_cons_self ..)
    simp only [List.length_cons] at h1
    rw [List.map_cons, sumR, show (toR M x).f1.f0 = (red x.2.1 M).1 from rfl, show (toR M x).f1.f1 = (red x.2.1 M).2 from rfl, plus_f L.hM (a := a) (b := x.2.1) (by omega) (by omega) (K0 + j) (K0_big j), Option.bind_some]
    simp only []
    rw [sumR_I j r (a + x.2.1) (fun y hy => hx y (List.mem_cons_of_mem _ hy)) (by omega) (by omega), show a + x.2.1 + sumI r = a + sumI (x :: r) by show _ = a + (x.2.1 + sumI r); omega]
theorem may_both (j i : Nat) : ∀ l : List S39, (∀ x ∈ l, Sml M x) → (mayL (K0 + 4 + i) (red (t - s) M).1 (red (t - s) M).2 (l.map to49) = some false ∧ mayR (K0 + j) G l = some false) ∨ ∃ xs : List Sh, l = xs.map (toR M) ∧ (∀ x ∈ xs, 0 ≤ x.2.1 ∧ x.2.1 ≤ t - s) ∧ mayR (K0 + j) G l = some true
  | [], _ => Or.inr ⟨[], rfl, fun x hx => absurd hx (by simp), rfl⟩
  | x :: r, hx => by
    have hM := L.hM
    have b1 := L.bs
    have b2 := L.bt
    have h0 := hx x (List.mem_cons_self ..)
    have hok := h0.ok hM
    have n1 := h0.n
    have n2 := h0.d
    have i1 : I x.f1.f0 := hok.i1
    have i2 : I x.f1.f1 := hok.i2
    have eG := sizeG L hG
    have hmay := May_at i1 i2 (K0 + (4 + i)) (K0_big _)
    rw [← Nat.add_assoc] at hmay
    rw [List.map_cons, mayL, mayR, show (to49 x).f1.f0 = x.f1.f0 from rfl, show (to49 x).f1.f1 = x.f1.f1 from rfl, hmay, Option.bind_some, gcd1 (by omega) (by omega) j, Option.bind_some]
    by_cases hl : low1 x.f1.f0 x.f1.f1 = true
    · obtain ⟨a, sa, ea⟩ := hok.low hl
      have hl' : decide _ = true := hl
      rw [if_pos hl', if_pos hl]
      have e0 : x.f1.f0 = (red a M).1 := congrArg S37.f0 ea
      have e1 : x.f1.f1 = (red a M).2 := congrArg S37.f1 ea
      rw [e0, e1]
      by_cases hn : (red a M).1 < 0
      · exact Or.inl ⟨by rw [if_pos hn], by rw [if_pos hn]⟩
      have q := less_k L hG (a := t - s) (b := a) (by unfold Sm; omega) sa j
      rw [eG] at q
      rw [if_neg hn, if_neg hn, Cmp_r hM sa (by unfold Sm; omega) i, Option.bind_some, q, Option.bind_some]
      by_cases hg : t - s < a
      · exact Or.inl ⟨by rw [if_pos (by rw [cmp3_gt hg]; decide)], by rw [if_pos (decide_eq_true hg)]⟩
      rw [if_neg (by
        rcases Int.lt_or_eq_of_le (Int.not_lt.1 hg) with h | h
        · rw [cmp3_lt h]; decide
        · rw [cmp3_eq h]; decide), if_neg (by simpa using hg)]
      have hn' : ¬ a < 0 := fun h => hn ((neg_red hM).2 h)
      rcases may_both j i r (fun y hy => hx y (List.mem_cons_of_mem _ hy)) with h | ⟨xs, rfl, hxs, hr⟩
      · exact Or.inl h
      · refine Or.inr ⟨(x.f0, a, x.f2) :: xs, ?_, ?_, hr⟩
        · rw [List.map_cons]
          congr 1
          show x = ⟨x.f0, rt M a, x.f2⟩
          rw [← ea]
          rfl
        · intro y hy
          rcases List.mem_cons.1 hy with rfl | hy
          · exact ⟨by show 0 ≤ a; omega, by show a ≤ t - s; omega⟩
          · exact hxs y hy
    · have hl' : ¬ (decide _ = true) := hl
      exact Or.inl ⟨by rw [if_neg hl'], by rw [if_neg hl]⟩
/-- Both answer alike. -/
theorem lay_same (co : Int) (l : List S39) (hx : ∀ x ∈ l, Sml M x) (hl : l.length ≤ 90) (hts : t - s ≤ 1099511627776) (j : Nat) :
    ∃ p e, layF (K0 + 4 + 96) 50 (l.map to49) fr tt co = some (p, e) ∧ refF (K0 + j) 50 l fr tt co = some (p, e) ∧ (e = 0 ∨ e = 2 ∨ e = 6) ∧ (e ≠ 0 → p = []) ∧
      (e = 0 → ∃ xs : List Sh, l = xs.map (toR M) ∧ (∀ x ∈ xs, 0 ≤ x.2.1 ∧ x.2.1 ≤ t - s) ∧ 1 ≤ co ∧ co ≤ 64 ∧ sumI xs ≤ (t - s) * co ∧ p = (layI M s t xs 0 s []).2.2) := by
  have hM := L.hM
  have b1 := L.bs
  have b2 := L.bt
  have hlt := L.lt
  have hf := frtt L
  have sG : Sm (t - s) := by unfold Sm; omega
  have eG := sizeG L hG
  unfold refF
  rw [if_neg (by omega)]
  by_cases h1 : co < 1
  · exact ⟨[], 2, by unfold layF mayF; rw [if_neg (by omega), if_pos h1, Option.bind_some, if_neg (by decide)], by rw [if_pos h1], Or.inr (Or.inl rfl), fun _ => rfl, fun e => absurd e (by decide)⟩
  rw [if_neg h1]
  by_cases h2 : co > 64
  · exact ⟨[], 2, by unfold layF mayF; rw [if_neg (by omega), if_neg h1, if_pos h2, Option.bind_some, if_neg (by decide)], by rw [if_pos h2], Or.inr (Or.inl rfl), fun _ => rfl, fun e => absurd e (by decide)⟩
  rw [if_neg h2, ← hG]
  rcases may_both L hG j 96 l hx with ⟨ha, hb⟩ | ⟨xs, rfl, hxs, hb⟩
  · refine ⟨[], 2, ?_, by rw [hb, Option.bind_some, if_neg (by decide)], Or.inr (Or.inl rfl), fun _ => rfl, fun e => absurd e (by decide)⟩
    unfold layF mayF
    rw [if_neg (by omega), if_neg h1, if_neg h2, long_f L, Option.bind_some, if_pos rfl]
    simp only []
    rw [ha, Option.bind_some, if_neg (by decide), Option.bind_some, if_neg (by decide)]
  · rw [List.length_map] at hl
    have hsum := sumR_I L hG j xs 0 (fun x h => ⟨(hxs x h).1, by have := (hxs x h).2; omega⟩) (Int.le_refl _) (by omega)
    have e0 : red 0 M = (0, 1) := by have h := whole_red hM 0; rw [Int.zero_mul] at h; exact h
    rw [e0, Int.zero_add] at hsum
    have s0 := sumI_nonneg xs (fun x h => (hxs x h).1)
    have s1 := sumI_le (B := 1099511627776) xs (fun x h => by have := hxs x h; omega)
    have hm1 : (t - s) * co ≤ (t - s) * 64 := Int.mul_le_mul_of_nonneg_left (by omega) (by omega)
    have hm0 : 0 ≤ (t - s) * co := Int.mul_nonneg (by omega) (by omega)
    have q := less_k L hG (a := (t - s) * co) (b := sumI xs) (by unfold Sm; omega) (by unfold Sm; omega) j
    have eC : red ((t - s) * co) M = (co * G, 1) := by
      rw [show (t - s) * co = (co * G) * M by rw [L.ht, L.hs, ← Int.sub_mul, hG, Int.mul_comm, Int.mul_assoc]]
      exact whole_red hM _
    rw [eC] at q
    have h := lay_at L (by omega) (by omega) xs hxs hl hts (co := co)
    have e49 : (xs.map (toR M)).map to49 = xs.map (toS M) := rows_toR M xs
    rw [e49, h, hb, Option.bind_some, if_pos rfl, hsum, Option.bind_some]
    simp only []
    rw [q, Option.bind_some]
    by_cases c : (t - s) * co < sumI xs
    · exact ⟨[], 6, by rw [if_pos c], by rw [if_pos (decide_eq_true c)], Or.inr (Or.inr rfl), fun _ => rfl, fun e => absurd e (by decide)⟩
    · have hI := layR_I L hG j 47 xs 0 s [] hxs (Int.le_refl _) L.lt (Int.le_refl _) (by omega) (by simp; omega)
      rw [show s - s = 0 by omega, e0] at hI
      refine ⟨_, 0, by rw [if_neg c], by rw [if_neg (by simpa using c), hI, Option.bind_some], Or.inl rfl, fun e => absurd rfl e, fun _ => ⟨xs, rfl, hxs, by omega, by omega, by omega, rfl⟩⟩
end
end Go.Proofs.Ytkgafogkeaaniaa.RlC
