/- Stable sorting in plain words; no program in sight. -/
set_option linter.unusedVariables false
namespace SoPlain
section
variable {α : Type} (lt : α → α → Bool)
/-- Which goes first: an order in which some may be alike. -/
structure Ord : Prop where
  asy : ∀ x y, lt x y = true → lt y x = false
  neg : ∀ x y z, lt y x = false → lt z y = false → lt z x = false
variable {lt}
theorem Ord.refl (h : Ord lt) (x : α) : lt x x = false := by
  cases e : lt x x
  · rfl
  · exact e.symm.trans (h.asy x x e)
/-- Strictly ahead of one that is not behind a third one. -/
theorem Ord.lt_le (h : Ord lt) {x y z : α} (h1 : lt x y = true) (h2 : lt z y = false) : lt x z = true := by
  cases e : lt x z
  · have := h.neg y z x h2 e
    rw [h1] at this
    cases this
  · rfl
theorem Ord.le_lt (h : Ord lt) {x y z : α} (h1 : lt y x = false) (h2 : lt y z = true) : lt x z = true := by
  cases e : lt x z
  · have := h.neg z x y e h1
    rw [h2] at this
    cases this
  · rfl
variable (lt)
/-- In order from a on, up to b. -/
def Srt (f : Nat → α) (a b : Nat) : Prop := ∀ p q, a ≤ p → p < q → q < b → lt (f q) (f p) = false
/-- g is f rearranged on the first n, alike ones as they stood. -/
def Stb (n : Nat) (f g : Nat → α) : Prop := ∃ s t : Nat → Nat, (∀ p, p < n → s p < n ∧ t p < n ∧ t (s p) = p ∧ s (t p) = p) ∧ (∀ p, p < n → g p = f (s p)) ∧ ∀ p q, p < q → q < n → lt (g p) (g q) = false → lt (g q) (g p) = false → s p < s q
variable {lt}
theorem Stb.refl (n : Nat) (f : Nat → α) : Stb lt n f f := ⟨id, id, fun p h => ⟨h, h, rfl, rfl⟩, fun _ _ => rfl, fun p q h _ _ _ => h⟩
theorem Stb.of_eq {n : Nat} {f g h : Nat → α} (k : Stb lt n f g) (e : ∀ p, p < n → h p = g p) : Stb lt n f h := by
  obtain ⟨s, t, h1, h2, h3⟩ := k
  refine ⟨s, t, h1, fun p hp => (e p hp).trans (h2 p hp), fun p q hpq hq a b => h3 p q hpq hq ?_ ?_⟩
  · rw [← e p (by omega), ← e q hq]; exact a
  · rw [← e p (by omega), ← e q hq]; exact b
theorem Stb.of_src {n : Nat} {f f' g : Nat → α} (k : Stb lt n f g) (e : ∀ p, p < n → f' p = f p) : Stb lt n f' g := by
  obtain ⟨s, t, h1, h2, h3⟩ := k
  exact ⟨s, t, h1, fun p hp => (h2 p hp).trans (e _ (h1 p hp).1).symm, h3⟩
theorem Stb.trans {n : Nat} {f g h : Nat → α} (k1 : Stb lt n f g) (k2 : Stb lt n g h) : Stb lt n f h := by
  obtain ⟨s, t, h1, h2, h3⟩ := k1
  obtain ⟨u, v, g1, g2, g3⟩ := k2
  refine ⟨fun p => s (u p), fun p => v (t p), fun p hp => ?_, fun p hp => ?_, fun p q hpq hq a b => ?_⟩
  · have a1 := g1 p hp
    have a2 := h1 (u p) a1.1
    have b1 := h1 p hp
    have b2 := g1 (t p) b1.2.1
    exact ⟨a2.1, b2.2.1, by show v (t (s (u p))) = p; rw [a2.2.2.1, a1.2.2.1], by show s (u (v (t p))) = p; rw [b2.2.2.2, b1.2.2.2]⟩
  · exact (g2 p hp).trans (h2 (u p) (g1 p hp).1)
  · have hup := g1 p (by omega)
    have huq := g1 q hq
    have huv := g3 p q hpq hq a b
    rw [g2 p (by omega), g2 q hq] at a b
    exact h3 (u p) (u q) huv huq.1 a b
/-- Two in order that are the same rearranged are the same. -/
theorem Stb.unique (ho : Ord lt) {n : Nat} {f g h : Nat → α} (k1 : Stb lt n f g) (k2 : Stb lt n f h) (o1 : Srt lt g 0 n) (o2 : Srt lt h 0 n) : ∀ p, p < n → g p = h p := by
  obtain ⟨s, t, h1, h2, h3⟩ := k1
  obtain ⟨u, v, g1, g2, g3⟩ := k2
  have key : ∀ (s t : Nat → Nat) (g : Nat → α), (∀ p, p < n → g p = f (s p)) → (∀ p q, p < q → q < n → lt (g p) (g q) = false → lt (g q) (g p) = false → s p < s q) → Srt lt g 0 n → ∀ p q, p < q → q < n → lt (f (s p)) (f (s q)) = true ∨ (lt (f (s p)) (f (s q)) = false ∧ lt (f (s q)) (f (s p)) = false ∧ s p < s q) := by
    intro s t g e1 e2 e3 p q hpq hq
    have a := e3 p q (Nat.zero_le _) hpq hq
    cases b : lt (g p) (g q)
    · refine .inr ⟨?_, ?_, e2 p q hpq hq b a⟩
      · rw [← e1 p (by omega), ← e1 q hq]; exact b
      · rw [← e1 p (by omega), ← e1 q hq]; exact a
    · refine .inl ?_
      rw [← e1 p (by omega), ← e1 q hq]; exact b
  have K1 := key s t g h2 h3 o1
  have K2 := key u v h g2 g3 o2
  have same : ∀ p, p < n → s p = u p := by
    intro p
    induction p using Nat.strongRecOn with
    | _ p ih =>
      intro hp
      by_cases e : s p = u p
      · exact e
      · exfalso
        -- where the other one has what stands at p here
        have a1 := g1 p hp
        have b1 := h1 (u p) a1.1
        have a2 := h1 p hp
        have b2 := g1 (s p) a2.1
        have c1 : p < t (u p) := by
          rcases Nat.lt_trichotomy (t (u p)) p with l | l | l
          · have e1 := ih _ l b1.2.1
            have e2 : u (t (u p)) = u p := by rw [← e1, b1.2.2.2]
            have e3 := (g1 (t (u p)) b1.2.1).2.2.1
            rw [e2, a1.2.2.1] at e3
            omega
          · rw [l] at b1
            exact absurd b1.2.2.2 e
          · exact l
        have c2 : p < v (s p) := by
          rcases Nat.lt_trichotomy (v (s p)) p with l | l | l
          · have e1 := ih _ l b2.2.1
            have e2 : s (v (s p)) = s p := by rw [e1, b2.2.2.2]
            have e3 := (h1 (v (s p)) b2.2.1).2.2.1
            rw [e2, a2.2.2.1] at e3
            omega
          · rw [l] at b2
            exact absurd b2.2.2.2.symm e
          · exact l
        have d1 := K1 p (t (u p)) c1 b1.2.1
        have d2 := K2 p (v (s p)) c2 b2.2.1
        rw [b1.2.2.2] at d1
        rw [b2.2.2.2] at d2
        rcases d1 with d1 | ⟨d1, d1', d1''⟩ <;> rcases d2 with d2 | ⟨d2, d2', d2''⟩
        · rw [ho.asy _ _ d1] at d2; cases d2
        · rw [d1] at d2'; cases d2'
        · rw [d2] at d1'; cases d1'
        · omega
  intro p hp
  rw [h2 p hp, g2 p hp, same p hp]
/-- Two neighbours change places, the later one strictly ahead. -/
theorem Stb.swap {n : Nat} {f g : Nat → α} (k : Nat) (hk : k + 1 < n) (hl : lt (f (k + 1)) (f k) = true) (e : ∀ p, p < n → g p = f (if p = k then k + 1 else if p = k + 1 then k else p)) : Stb lt n f g := by
  refine ⟨fun p => if p = k then k + 1 else if p = k + 1 then k else p, fun p => if p = k then k + 1 else if p = k + 1 then k else p, fun p hp => ?_, e, fun p q hpq hq a b => ?_⟩
  · refine ⟨?_, ?_, ?_, ?_⟩
    · dsimp only; split
      · omega
      · split <;> omega
    · dsimp only; split
      · omega
      · split <;> omega
    · dsimp only
      by_cases h1 : p = k
      · rw [if_pos h1]; simp [h1]
      · rw [if_neg h1]
        by_cases h2 : p = k + 1
        · rw [if_pos h2]; simp [h2]
        · rw [if_neg h2, if_neg h1, if_neg h2]
    · dsimp only
      by_cases h1 : p = k
      · rw [if_pos h1]; simp [h1]
      · rw [if_neg h1]
        by_cases h2 : p = k + 1
        · rw [if_pos h2]; simp [h2]
        · rw [if_neg h2, if_neg h1, if_neg h2]
  · dsimp only
    by_cases h1 : p = k
    · by_cases h2 : q = k + 1
      · exfalso
        rw [e p (by omega), e q hq, if_pos h1, if_neg (by omega), if_pos h2, hl] at a
        cases a
      · rw [if_pos h1, if_neg (by omega), if_neg h2]; omega
    · rw [if_neg h1]
      by_cases h3 : p = k + 1
      · rw [if_pos h3, if_neg (by omega), if_neg (by omega)]; omega
      · rw [if_neg h3]
        by_cases h4 : q = k
        · rw [if_pos h4]; omega
        · rw [if_neg h4]
          by_cases h5 : q = k + 1
          · rw [if_pos h5]; omega
          · rw [if_neg h5]; omega
/-- Where what stands at p behind a turn of the blocks from a to m and from m to b stood ahead of it. -/
def rot (a m b p : Nat) : Nat := if p < a then p else if p < a + (b - m) then p - a + m else if p < b then p - (b - m) else p
/-- Where what stands at p behind an exchange of n from a on with n from b on stood ahead of it. -/
def swp (a b n p : Nat) : Nat := if a ≤ p ∧ p < a + n then p - a + b else if b ≤ p ∧ p < b + n then p - b + a else p
theorem rot_self (a m b p : Nat) (h1 : a ≤ m) (h2 : m ≤ b) : rot a m b (rot a (a + (b - m)) b p) = p ∧ rot a (a + (b - m)) b (rot a m b p) = p := by
  unfold rot
  constructor
  · repeat' split
    all_goals omega
  · repeat' split
    all_goals omega
theorem rot_lt (a m b p n : Nat) (h1 : a ≤ m) (h2 : m ≤ b) (hb : b ≤ n) (hp : p < n) : rot a m b p < n := by
  unfold rot
  repeat' split
  all_goals omega
/-- Two blocks change places, each of the later one strictly ahead. -/
theorem Stb.rot {n : Nat} {f g : Nat → α} (a m b : Nat) (h1 : a ≤ m) (h2 : m ≤ b) (hb : b ≤ n) (hl : ∀ p q, a ≤ p → p < m → m ≤ q → q < b → lt (f q) (f p) = true) (e : ∀ p, p < n → g p = f (SoPlain.rot a m b p)) : Stb lt n f g := by
  refine ⟨SoPlain.rot a m b, SoPlain.rot a (a + (b - m)) b, fun p hp => ⟨rot_lt a m b p n h1 h2 hb hp, rot_lt a _ b p n (by omega) (by omega) hb hp, (rot_self a m b p h1 h2).2, (rot_self a m b p h1 h2).1⟩, e, fun p q hpq hq x y => ?_⟩
  by_cases h : SoPlain.rot a m b p < SoPlain.rot a m b q
  · exact h
  · exfalso
    have hh : a ≤ SoPlain.rot a m b q ∧ SoPlain.rot a m b q < m ∧ m ≤ SoPlain.rot a m b p ∧ SoPlain.rot a m b p < b := by
      revert h
      unfold SoPlain.rot
      repeat' split
      all_goals omega
    rw [e p (by omega), e q hq, hl _ _ hh.1 hh.2.1 hh.2.2.1 hh.2.2.2] at x
    cases x
theorem swp_rot1 (a m i j p : Nat) (h : j < i) (ha : a = m - i) (hm : i ≤ m) : swp a m j (rot (a + j) m (m + j) p) = rot a m (m + j) p := by
  unfold swp rot
  repeat' split
  all_goals omega
theorem swp_rot2 (a m i j p : Nat) (h : i < j) (ha : a = m - i) (hm : i ≤ m) : swp a (m + j - i) i (rot a m (m + (j - i)) p) = rot a m (m + j) p := by
  unfold swp rot
  repeat' split
  all_goals omega
theorem swp_rot3 (a m i p : Nat) (ha : a = m - i) (hm : i ≤ m) : swp a m i p = rot a m (m + i) p := by
  unfold swp rot
  repeat' split
  all_goals omega
theorem swp_step (a b n p : Nat) (h : a + n < b) : (if p = b + n then a + n else if p = a + n then b + n else swp a b n p) = swp a b (n + 1) p := by
  unfold swp
  repeat' split
  all_goals omega
end
end SoPlain
