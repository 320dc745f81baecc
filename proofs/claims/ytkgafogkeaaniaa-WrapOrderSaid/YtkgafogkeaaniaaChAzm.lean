/- Pieces in their order: one behind the other; by shares. No program in sight but its fractions. No condition. -/
import Derived.Test.YtkgafogkeaaniaaSmFzm
set_option linter.unusedVariables false
set_option linter.unusedSimpArgs false
namespace Go.Proofs.Ytkgafogkeaaniaa.ChA
open Go.RowKit Go.Proofs.Ytkgafogkeaaniaa.PW Go.Proofs.YtkgafogkeaaniaaW.PrintWords Go.Proofs.Ytkgafogkeaaniaa.RwC Go.Proofs.Ytkgafogkeaaniaa.RwV WhPlain RaPlain Go.Proofs.Ytkgafogkeaaniaa.WlB Go.Proofs.Ytkgafogkeaaniaa.WlC Go.Proofs.Ytkgafogkeaaniaa.WlX Go.Proofs.Ytkgafogkeaaniaa.WlY Go.Proofs.Ytkgafogkeaaniaa.RfX Go.Proofs.Ytkgafogkeaaniaa.SmF
/-- Pieces one behind the other, from a place to a place. -/
def Chain (M s t : Int) : List S41 → Int → Int → Int → Int → Prop
  | [], c, a, c', a' => c = c' ∧ a = a'
  | p :: r, c, a, c', a' => ∃ b, p.f1 = c ∧ p.f3 = rt M a ∧ p.f4 = rt M b ∧ ((b = t ∧ Chain M s t r (c + 1) s c' a') ∨ (b ≠ t ∧ Chain M s t r c b c' a'))
theorem Chain.app {M s t : Int} : ∀ (l : List S41) {c a c1 a1 c2 a2 : Int} {r : List S41}, Chain M s t l c a c1 a1 → Chain M s t r c1 a1 c2 a2 → Chain M s t (l ++ r) c a c2 a2
  | [], c, a, c1, a1, c2, a2, r, h, h2 => by obtain ⟨rfl, rfl⟩ := h; exact h2
  | p :: l, c, a, c1, a1, c2, a2, r, h, h2 => by
    obtain ⟨b, e1, e2, e3, h⟩ := h
    refine ⟨b, e1, e2, e3, ?_⟩
    rcases h with ⟨hb, h⟩ | ⟨hb, h⟩
    · exact Or.inl ⟨hb, Chain.app l h h2⟩
    · exact Or.inr ⟨hb, Chain.app l h h2⟩
theorem stp_chain (M s t core a id : Int) (sl : Bool) (l : Int) (hl : 0 ≤ l) (ha : s ≤ a) (hat : a < t) (hls : l ≤ t - s) (out : List S41) (h : Chain M s t out 0 s core a) :
    Chain M s t (stp M s t core a id sl l out).2.2 0 s (stp M s t core a id sl l out).1 (stp M s t core a id sl l out).2.1 := by
  unfold stp
  split
  · exact h
  split
  · exact h.app _ ⟨a + l, rfl, rfl, rfl, Or.inr ⟨by omega, rfl, rfl⟩⟩
  split
  · exact h.app _ ⟨t, rfl, rfl, rfl, Or.inl ⟨rfl, rfl, rfl⟩⟩
  · exact h.app _ ⟨t, rfl, rfl, rfl, Or.inl ⟨rfl, s + (l - (t - a)), rfl, rfl, rfl, Or.inr ⟨by omega, rfl, rfl⟩⟩⟩
theorem layI_chain {M s t fr tt : Int} (L : Ln M s t fr tt) : ∀ (xs : List Sh) (core a : Int) (out : List S41), (∀ x ∈ xs, 0 ≤ x.2.1 ∧ x.2.1 ≤ t - s) → s ≤ a → a < t → Chain M s t out 0 s core a →
    Chain M s t (layI M s t xs core a out).2.2 0 s (layI M s t xs core a out).1 (layI M s t xs core a out).2.1 ∧ s ≤ (layI M s t xs core a out).2.1 ∧ (layI M s t xs core a out).2.1 < t ∧
    (layI M s t xs core a out).2.2.length ≤ out.length + 2 * xs.length ∧ (layI M s t xs core a out).1 * (t - s) + ((layI M s t xs core a out).2.1 - s) = core * (t - s) + (a - s) + sumI xs
  | [], core, a, out, _, h1, h2, h => ⟨h, h1, h2, by simp [layI], by simp [layI, sumI]⟩
  | x :: r, core, a, out, hx, h1, h2, h => by
    obtain ⟨p1, p2⟩ := hx x (List.mem_cons_self ..)
    obtain ⟨_, ⟨o3, o4⟩, o5, o6⟩ := stp_ok L core a x.1 x.2.2 x.2.1 p1 h1 h2 p2 out
    obtain ⟨q1, q2, q3, q4, q5⟩ := layI_chain L r _ _ _ (fun y hy => hx y (List.mem_cons_of_mem _ hy)) o3 o4 (stp_chain M s t core a x.1 x.2.2 x.2.1 p1 h1 h2 p2 out h)
    rw [layI]
    refine ⟨q1, q2, q3, ?_, ?_⟩
    · rw [List.length_cons]; omega
    · rw [q5, o6]
      show _ + x.2.1 + sumI r = _ + (x.2.1 + sumI r)
      omega
theorem rd_drop41 {l : List S41} {j : Nat} (hj : j < l.length) : l.drop j = rd_T41 l (j : Int) :: l.drop (j + 1) := by
  rw [List.drop_eq_getElem_cons hj]
  congr 1
  unfold rd_T41
  rw [Int.toNat_natCast, List.getD_eq_getElem?_getD, List.getElem?_eq_getElem hj]
  rfl
theorem rd41 {l : List S41} {j : Nat} (hj : j < l.length) : l[j]? = some (rd_T41 l (j : Int)) := by
  unfold rd_T41
  rw [Int.toNat_natCast, List.getD_eq_getElem?_getD, List.getElem?_eq_getElem hj]
  rfl
/-- A piece and the one behind it. -/
def Nx (fr : Int) (p q : S41) : Prop := (q.f1 = p.f1 ∧ q.f3 = p.f4) ∨ (q.f1 = p.f1 + 1 ∧ q.f3 = ⟨fr, 1⟩)
theorem Chain.nx {M s t fr : Int} (hs : rt M s = ⟨fr, 1⟩) : ∀ (l : List S41) {c a c1 a1 : Int}, Chain M s t l c a c1 a1 → ∀ (i : Nat) p q, l[i]? = some p → l[i + 1]? = some q → Nx fr p q
  | [], _, _, _, _, _, _, _, _, h, _ => by simp at h
  | x :: r, c, a, c1, a1, h, i, p, q, hp, hq => by
    obtain ⟨b, e1, e2, e3, h⟩ := h
    rcases i with _ | i
    · simp only [List.getElem?_cons_zero, Option.some.injEq] at hp
      subst hp
      rcases r with _ | ⟨y, r⟩
      · simp at hq
      · simp at hq
        subst hq
        rcases h with ⟨hb, b2, g1, g2, _⟩ | ⟨hb, b2, g1, g2, _⟩
        · exact Or.inr ⟨by rw [g1, e1], by rw [g2, hs]⟩
        · exact Or.inl ⟨by rw [g1, e1], by rw [g2, e3]⟩
    · simp only [List.getElem?_cons_succ] at hp hq
      rcases h with ⟨hb, h⟩ | ⟨hb, h⟩
      · exact Chain.nx hs r h i p q hp hq
      · exact Chain.nx hs r h i p q hp hq
theorem Chain.core {M s t : Int} : ∀ (l : List S41) {c a c1 a1 : Int}, Chain M s t l c a c1 a1 → ∀ p ∈ l, c ≤ p.f1 ∧ p.f1 ≤ c + l.length
  | [], _, _, _, _, _, _, h => by simp at h
  | x :: r, c, a, c1, a1, h, p, hp => by
    obtain ⟨b, e1, e2, e3, h⟩ := h
    rw [List.length_cons]
    rcases List.mem_cons.1 hp with rfl | hp
    · omega
    · rcases h with ⟨hb, h⟩ | ⟨hb, h⟩
      · have := Chain.core r h p hp
        omega
      · have := Chain.core r h p hp
        omega
/-- Pieces in the order of the shares. -/
def InO : List S39 → List S41 → Prop
  | [], ps => ps = []
  | x :: r, ps => ∃ qs rs, ps = qs ++ rs ∧ (∀ q ∈ qs, q.f2 = x.f0 ∧ q.f5 = x.f2 ∧ q.f0 = 3) ∧ InO r rs
theorem InO.mem : ∀ (l : List S39) {ps : List S41}, InO l ps → ∀ q ∈ ps, ∃ y ∈ l, q.f2 = y.f0
  | [], ps, h, q, hq => by rw [InO] at h; subst h; simp at hq
  | x :: r, ps, h, q, hq => by
    obtain ⟨qs, rs, rfl, h1, h2⟩ := h
    rcases List.mem_append.1 hq with hq | hq
    · exact ⟨x, List.mem_cons_self .., (h1 q hq).1⟩
    · obtain ⟨y, hy, e⟩ := InO.mem r h2 q hq
      exact ⟨y, List.mem_cons_of_mem _ hy, e⟩
theorem InO.hit {x : S39} {r : List S39} {p : S41} {ps : List S41} (h : InO (x :: r) (p :: ps)) (he : x.f0 = p.f2) (hd : ∀ y ∈ r, y.f0 ≠ x.f0) : (p.f5 = x.f2 ∧ p.f0 = 3) ∧ InO (x :: r) ps := by
  obtain ⟨qs, rs, e, h1, h2⟩ := h
  rcases qs with _ | ⟨q, qs⟩
  · rw [List.nil_append] at e
    subst e
    obtain ⟨y, hy, e⟩ := InO.mem r h2 p (List.mem_cons_self ..)
    exact absurd (e.symm.trans he.symm) (hd y hy)
  · rw [List.cons_append] at e
    obtain ⟨rfl, rfl⟩ := List.cons.inj e
    exact ⟨(h1 p (List.mem_cons_self ..)).2, qs, rs, rfl, fun q hq => h1 q (List.mem_cons_of_mem _ hq), h2⟩
theorem InO.miss {x : S39} {r : List S39} {p : S41} {ps : List S41} (h : InO (x :: r) (p :: ps)) (he : ¬ x.f0 = p.f2) : InO r (p :: ps) := by
  obtain ⟨qs, rs, e, h1, h2⟩ := h
  rcases qs with _ | ⟨q, qs⟩
  · rw [List.nil_append] at e
    subst e
    exact h2
  · rw [List.cons_append] at e
    obtain ⟨rfl, rfl⟩ := List.cons.inj e
    exact absurd (h1 p (List.mem_cons_self ..)).1.symm he
theorem layI_ord (M s t : Int) : ∀ (xs : List Sh) (core a : Int) (out : List S41), ∃ qs, (layI M s t xs core a out).2.2 = out ++ qs ∧ InO (xs.map (toR M)) qs
  | [], core, a, out => ⟨[], by simp [layI], rfl⟩
  | x :: r, core, a, out => by
    obtain ⟨q1, e1, h1⟩ : ∃ q1, (stp M s t core a x.1 x.2.2 x.2.1 out).2.2 = out ++ q1 ∧ ∀ q ∈ q1, q.f2 = x.1 ∧ q.f5 = x.2.2 ∧ q.f0 = 3 := by
      unfold stp
      split
      · exact ⟨[], by simp, by simp⟩
      split
      · exact ⟨_, rfl, by simp [pc]⟩
      split
      · exact ⟨_, rfl, by simp [pc]⟩
      · exact ⟨_, rfl, by simp [pc]⟩
    obtain ⟨q2, e2, h2⟩ := layI_ord M s t r (stp M s t core a x.1 x.2.2 x.2.1 out).1 (stp M s t core a x.1 x.2.2 x.2.1 out).2.1 (stp M s t core a x.1 x.2.2 x.2.1 out).2.2
    refine ⟨q1 ++ q2, ?_, q1, q2, rfl, h1, h2⟩
    rw [layI, e2, e1, List.append_assoc]
end Go.Proofs.Ytkgafogkeaaniaa.ChA
