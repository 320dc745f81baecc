/- Merging in place, in plain words; no program in sight. -/
import Derived.Test.YtmjgadhknliiaaaSoP
set_option linter.unusedVariables false
namespace SoPlain
section
variable {α : Type} {lt : α → α → Bool}
/-- What stands between a and b stood between a and b. -/
def Frm (f g : Nat → α) (a b : Nat) : Prop := ∀ p, a ≤ p → p < b → ∃ q, a ≤ q ∧ q < b ∧ g p = f q
theorem Frm.refl (f : Nat → α) (a b : Nat) : Frm f f a b := fun p h1 h2 => ⟨p, h1, h2, rfl⟩
theorem Frm.trans {f g h : Nat → α} {a b : Nat} (k1 : Frm f g a b) (k2 : Frm g h a b) : Frm f h a b := fun p h1 h2 => by
  obtain ⟨q, q1, q2, e⟩ := k2 p h1 h2
  obtain ⟨r, r1, r2, e'⟩ := k1 q q1 q2
  exact ⟨r, r1, r2, e.trans e'⟩
/-- From a part to the whole, where the rest stands. -/
theorem Frm.wide {f g : Nat → α} {a b c d : Nat} (k : Frm f g a b) (h1 : c ≤ a) (h2 : b ≤ d) (ho : ∀ p, p < a ∨ b ≤ p → g p = f p) : Frm f g c d := fun p p1 p2 => by
  by_cases e : a ≤ p ∧ p < b
  · obtain ⟨q, q1, q2, e⟩ := k p e.1 e.2
    exact ⟨q, by omega, by omega, e⟩
  · exact ⟨p, p1, p2, ho p (by omega)⟩
theorem frm_rot (f g : Nat → α) (a m b c d : Nat) (h1 : a ≤ m) (h2 : m ≤ b) (hc : c ≤ a) (hd : b ≤ d) (e : ∀ p, g p = f (rot a m b p)) : Frm f g c d := fun p p1 p2 => by
  refine ⟨rot a m b p, ?_, ?_, e p⟩
  · unfold rot; repeat' split
    all_goals omega
  · unfold rot; repeat' split
    all_goals omega
theorem out_rot (f g : Nat → α) (a m b c d : Nat) (h1 : a ≤ m) (h2 : m ≤ b) (hc : c ≤ a) (hd : b ≤ d) (e : ∀ p, g p = f (rot a m b p)) : ∀ p, p < c ∨ d ≤ p → g p = f p := fun p hp => by
  rw [e]
  congr 1
  unfold rot; repeat' split
  all_goals omega
theorem rot_nil1 (m b p : Nat) : rot m m b p = p := by unfold rot; repeat' split
                                                       all_goals omega
theorem rot_nil2 (a m p : Nat) (h : a ≤ m) : rot a m m p = p := by unfold rot; repeat' split
                                                                   all_goals omega
/-- What is done when all are merged. -/
structure Mrg (lt : α → α → Bool) (n : Nat) (f g : Nat → α) (a b : Nat) : Prop where
  stb : Stb lt n f g
  srt : Srt lt g a b
  out : ∀ p, p < a ∨ b ≤ p → g p = f p
  frm : Frm f g a b
/-- Two blocks turned, and all is in order. -/
theorem Mrg.of_rot (ho : Ord lt) {n : Nat} {f g : Nat → α} {a m b s e : Nat} (hs1 : a ≤ s) (hs2 : s ≤ m) (he1 : m ≤ e) (he2 : e ≤ b) (hb : b ≤ n) (o1 : Srt lt f a m) (o2 : Srt lt f m b)
    (h2 : ∀ p q, s ≤ p → p < m → m ≤ q → q < e → lt (f q) (f p) = true) (h4 : ∀ p q, a ≤ p → p < s → m ≤ q → q < b → lt (f q) (f p) = false) (h5 : ∀ p q, s ≤ p → p < m → e ≤ q → q < b → lt (f q) (f p) = false) (eq : ∀ p, g p = f (rot s m e p)) : Mrg lt n f g a b := by
  refine ⟨Stb.rot s m e hs2 he1 (by omega) h2 (fun p _ => eq p), fun p q p1 pq qb => ?_, out_rot f g s m e a b hs2 he1 hs1 he2 eq, frm_rot f g s m e a b hs2 he1 hs1 he2 eq⟩
  rw [eq p, eq q]
  have key : ∀ P Q, a ≤ P → P < b → a ≤ Q → Q < b → (P < Q ∧ Q < m ∨ m ≤ P ∧ P < Q ∨ P < s ∧ m ≤ Q ∨ s ≤ P ∧ P < m ∧ e ≤ Q ∨ s ≤ Q ∧ Q < m ∧ m ≤ P ∧ P < e) → lt (f Q) (f P) = false := by
    intro P Q P1 P2 Q1 Q2 h
    rcases h with h | h | h | h | h
    · exact o1 P Q P1 h.1 h.2
    · exact o2 P Q h.1 h.2 Q2
    · exact h4 P Q P1 h.1 h.2 Q2
    · exact h5 P Q h.1 h.2.1 h.2.2 Q2
    · exact ho.asy _ _ (h2 Q P h.1 h.2.1 h.2.2.1 h.2.2.2)
  apply key
  · unfold rot; repeat' split
    all_goals omega
  · unfold rot; repeat' split
    all_goals omega
  · unfold rot; repeat' split
    all_goals omega
  · unfold rot; repeat' split
    all_goals omega
  · unfold rot
    repeat' split
    all_goals omega
/-- Behind the turn in the middle: four blocks, the first two not behind the last two. -/
structure Mid (lt : α → α → Bool) (n : Nat) (f g : Nat → α) (a s mid e b : Nat) : Prop where
  stb : Stb lt n f g
  s1 : Srt lt g a s
  s2 : Srt lt g s mid
  s3 : Srt lt g mid e
  s4 : Srt lt g e b
  cr : ∀ p q, a ≤ p → p < mid → mid ≤ q → q < b → lt (g q) (g p) = false
  out : ∀ p, p < a ∨ b ≤ p → g p = f p
  frm : Frm f g a b
theorem Mid.of_rot (ho : Ord lt) {n : Nat} {f g : Nat → α} {a m b s e mid : Nat} (hs1 : a ≤ s) (hs2 : s ≤ m) (he1 : m ≤ e) (he2 : e ≤ b) (hb : b ≤ n) (hm : s + e = mid + m) (o1 : Srt lt f a m) (o2 : Srt lt f m b)
    (h2 : ∀ p q, s ≤ p → p < m → m ≤ q → q < e → lt (f q) (f p) = true) (h4 : ∀ p q, a ≤ p → p < s → e ≤ q → q < b → lt (f q) (f p) = false) (eq : ∀ p, g p = f (rot s m e p)) : Mid lt n f g a s mid e b := by
  have in1 : ∀ p, p < s → rot s m e p = p := fun p h => by unfold rot; rw [if_pos h]
  have in2 : ∀ p, s ≤ p → p < mid → rot s m e p = p - s + m := fun p h1 h2 => by unfold rot; rw [if_neg (by omega), if_pos (by omega)]
  have in3 : ∀ p, mid ≤ p → p < e → rot s m e p = p - (e - m) := fun p h1 h2 => by unfold rot; rw [if_neg (by omega), if_neg (by omega), if_pos (by omega)]
  have in4 : ∀ p, e ≤ p → rot s m e p = p := fun p h => by unfold rot; rw [if_neg (by omega), if_neg (by omega), if_neg (by omega)]
  refine ⟨Stb.rot s m e hs2 he1 (by omega) h2 (fun p _ => eq p), ?_, ?_, ?_, ?_, ?_, out_rot f g s m e a b hs2 he1 hs1 he2 eq, frm_rot f g s m e a b hs2 he1 hs1 he2 eq⟩
  · intro p q h1 h2 h3
    rw [eq p, eq q, in1 p (by omega), in1 q h3]
    exact o1 p q h1 h2 (by omega)
  · intro p q h1 h2 h3
    rw [eq p, eq q, in2 p h1 (by omega), in2 q (by omega) h3]
    exact o2 _ _ (by omega) (by omega) (by omega)
  · intro p q h1 h2 h3
    rw [eq p, eq q, in3 p h1 (by omega), in3 q (by omega) h3]
    exact o1 _ _ (by omega) (by omega) (by omega)
  · intro p q h1 h2 h3
    rw [eq p, eq q, in4 p h1, in4 q (by omega)]
    exact o2 p q (by omega) h2 h3
  · intro p q h1 h2' h3 h4'
    rw [eq p, eq q]
    by_cases c1 : p < s
    · rw [in1 p c1]
      by_cases c2 : q < e
      · rw [in3 q h3 c2]
        exact o1 p _ h1 (by omega) (by omega)
      · rw [in4 q (by omega)]
        exact h4 p q h1 c1 (by omega) h4'
    · rw [in2 p (by omega) h2']
      by_cases c2 : q < e
      · rw [in3 q h3 c2]
        exact ho.asy _ _ (h2 _ _ (by omega) (by omega) (by omega) (by omega))
      · rw [in4 q (by omega)]
        exact o2 _ q (by omega) (by omega) h4'
/-- One half merged (or in order already), then the other. -/
theorem Mid.left {n : Nat} {f g h : Nat → α} {a s mid e b : Nat} (k : Mid lt n f g a s mid e b) (h1 : a ≤ s) (h2 : s ≤ mid) (h3 : mid ≤ e) (h4 : e ≤ b) (m : Mrg lt n g h a mid) : Stb lt n f h ∧ Srt lt h a mid ∧ Srt lt h mid e ∧ Srt lt h e b ∧ (∀ p q, a ≤ p → p < mid → mid ≤ q → q < b → lt (h q) (h p) = false) ∧ (∀ p, p < a ∨ b ≤ p → h p = f p) ∧ Frm f h a b := by
  refine ⟨k.stb.trans m.stb, m.srt, fun p q a1 a2 a3 => ?_, fun p q a1 a2 a3 => ?_, fun p q a1 a2 a3 a4 => ?_, fun p hp => ?_, k.frm.trans (m.frm.wide (Nat.le_refl _) (by omega) m.out)⟩
  · rw [m.out p (by omega), m.out q (by omega)]; exact k.s3 p q a1 a2 a3
  · rw [m.out p (by omega), m.out q (by omega)]; exact k.s4 p q a1 a2 a3
  · obtain ⟨p', p1, p2, e1⟩ := m.frm p a1 a2
    rw [e1, m.out q (by omega)]
    exact k.cr p' q p1 p2 a3 a4
  · rw [m.out p (by omega), k.out p hp]
theorem mrg_join {n : Nat} {f h i : Nat → α} {a mid b : Nat} (hm1 : a ≤ mid) (hm2 : mid ≤ b) (k1 : Stb lt n f h) (k2 : Srt lt h a mid) (k5 : ∀ p q, a ≤ p → p < mid → mid ≤ q → q < b → lt (h q) (h p) = false) (k6 : ∀ p, p < a ∨ b ≤ p → h p = f p) (k7 : Frm f h a b) (m : Mrg lt n h i mid b) : Mrg lt n f i a b := by
  refine ⟨k1.trans m.stb, fun p q a1 a2 a3 => ?_, fun p hp => by rw [m.out p (by omega), k6 p hp], k7.trans (m.frm.wide hm1 (Nat.le_refl _) m.out)⟩
  by_cases c1 : q < mid
  · rw [m.out p (by omega), m.out q (by omega)]; exact k2 p q a1 a2 c1
  · by_cases c2 : p < mid
    · obtain ⟨q', q1, q2, e1⟩ := m.frm q (by omega) a3
      rw [m.out p (by omega), e1]
      exact k5 p q' a1 c2 q1 q2
    · exact m.srt p q (by omega) a2 a3
/-- Two blocks of which one is empty are merged as they stand. -/
theorem Mrg.skip {n : Nat} {f : Nat → α} {a s b : Nat} (h : s = a ∨ s = b) (o1 : Srt lt f a s) (o2 : Srt lt f s b) : Mrg lt n f f a b :=
  ⟨Stb.refl _ _, by rcases h with rfl | rfl; exact o2; exact o1, fun _ _ => rfl, Frm.refl _ _ _⟩
/-- The search for where to turn: from s0 to r0; all below s are not, all from r on are. -/
structure Bs (lt : α → α → Bool) (f : Nat → α) (N s0 r0 s r : Nat) : Prop where
  le0 : s0 ≤ s
  le : s ≤ r
  le1 : r ≤ r0
  lo : ∀ c, s0 ≤ c → c < s → lt (f (N - 1 - c)) (f c) = false
  hi : ∀ c, r ≤ c → c < r0 → lt (f (N - 1 - c)) (f c) = true
theorem Bs.start (f : Nat → α) (N : Nat) {s0 r0 : Nat} (h : s0 ≤ r0) : Bs lt f N s0 r0 s0 r0 := ⟨Nat.le_refl _, h, Nat.le_refl _, fun c h1 h2 => by omega, fun c h1 h2 => by omega⟩
theorem Bs.up (ho : Ord lt) {f : Nat → α} {N a m b s0 r0 s r c : Nat} (h : Bs lt f N s0 r0 s r) (o1 : Srt lt f a m) (o2 : Srt lt f m b) (ha : a ≤ s0) (hr : r0 ≤ m) (h1 : ∀ c, s0 ≤ c → c < r0 → m ≤ N - 1 - c ∧ N - 1 - c < b ∧ c < N) (c1 : s ≤ c) (c2 : c < r) (hc : lt (f (N - 1 - c)) (f c) = false) : Bs lt f N s0 r0 (c + 1) r := by
  have := h.le0; have := h.le; have := h.le1
  refine ⟨by omega, by omega, h.le1, fun d d1 d2 => ?_, h.hi⟩
  by_cases e : d = c
  · subst e; exact hc
  · have b1 := h1 d d1 (by omega)
    have b2 := h1 c (by omega) (by omega)
    exact ho.neg _ _ _ (o1 d c (by omega) (by omega) (by omega)) (ho.neg _ _ _ hc (o2 (N - 1 - c) (N - 1 - d) b2.1 (by omega) b1.2.1))
theorem Bs.dn (ho : Ord lt) {f : Nat → α} {N a m b s0 r0 s r c : Nat} (h : Bs lt f N s0 r0 s r) (o1 : Srt lt f a m) (o2 : Srt lt f m b) (ha : a ≤ s0) (hr : r0 ≤ m) (h1 : ∀ c, s0 ≤ c → c < r0 → m ≤ N - 1 - c ∧ N - 1 - c < b ∧ c < N) (c1 : s ≤ c) (c2 : c < r) (hc : lt (f (N - 1 - c)) (f c) = true) : Bs lt f N s0 r0 s c := by
  have := h.le0; have := h.le; have := h.le1
  refine ⟨h.le0, c1, by omega, h.lo, fun d d1 d2 => ?_⟩
  by_cases e : d = c
  · subst e; exact hc
  · have b1 := h1 d (by omega) d2
    have b2 := h1 c (by omega) (by omega)
    exact ho.le_lt (o2 (N - 1 - d) (N - 1 - c) b1.1 (by omega) b2.2.1) (ho.lt_le hc (o1 c d (by omega) (by omega) (by omega)))
/-- What the search comes to. -/
theorem Bs.fin (ho : Ord lt) {f : Nat → α} {a m b mid s0 r0 s : Nat} (h : Bs lt f (mid + m) s0 r0 s s) (o1 : Srt lt f a m) (o2 : Srt lt f m b) (hmid : mid = (a + b) / 2) (ham : a < m) (hmb : m < b) (hs : (mid < m ∧ s0 = mid + m - b ∧ r0 = mid) ∨ (m ≤ mid ∧ s0 = a ∧ r0 = m)) :
    a ≤ s ∧ s ≤ m ∧ m ≤ mid + m - s ∧ mid + m - s ≤ b ∧ s + (mid + m - s) = mid + m ∧ s ≤ mid ∧ mid ≤ mid + m - s ∧ (∀ p q, s ≤ p → p < m → m ≤ q → q < mid + m - s → lt (f q) (f p) = true) ∧ (∀ p q, a ≤ p → p < s → mid + m - s ≤ q → q < b → lt (f q) (f p) = false) := by
  have l0 := h.le0; have l1 := h.le1
  refine ⟨by omega, by omega, by omega, by omega, by omega, by omega, by omega, fun p q p1 p2 q1 q2 => ?_, fun p q p1 p2 q1 q2 => ?_⟩
  · have k := h.hi s (Nat.le_refl _) (by omega)
    have k1 : lt (f q) (f s) = true := by
      by_cases e : q = mid + m - 1 - s
      · rw [e]; exact k
      · exact ho.le_lt (o2 q (mid + m - 1 - s) q1 (by omega) (by omega)) k
    by_cases e : p = s
    · rw [e]; exact k1
    · exact ho.lt_le k1 (o1 s p (by omega) (by omega) p2)
  · have k := h.lo (s - 1) (by omega) (by omega)
    have e0 : mid + m - 1 - (s - 1) = mid + m - s := by omega
    rw [e0] at k
    have k1 : lt (f q) (f (s - 1)) = false := by
      by_cases e : q = mid + m - s
      · rw [e]; exact k
      · exact ho.neg _ _ _ k (o2 (mid + m - s) q (by omega) (by omega) q2)
    by_cases e : p = s - 1
    · rw [e]; exact k1
    · exact ho.neg _ _ _ (o1 p (s - 1) p1 (by omega) (by omega)) k1
end
end SoPlain
