/- Blocks in order, in plain words; no program in sight. -/
import Derived.Test.YtmjgadhknliiaaaSoQ
set_option linter.unusedVariables false
namespace SoPlain
section
variable {α : Type} {lt : α → α → Bool}
/-- In order block by block, up to c; and from a on. -/
def BU (lt : α → α → Bool) (s : Nat) (f : Nat → α) (c : Nat) : Prop := ∀ p q, p < q → q < c → p / s = q / s → lt (f q) (f p) = false
def BT (lt : α → α → Bool) (s : Nat) (f : Nat → α) (a n : Nat) : Prop := ∀ p q, a ≤ p → p < q → q < n → p / s = q / s → lt (f q) (f p) = false
def Sz (s : Nat) : Prop := s = 20 ∨ s = 40 ∨ s = 80 ∨ s = 160
theorem bu_ins {f g : Nat → α} {a b : Nat} (h : BU lt 20 f a) (ha : a % 20 = 0) (hb : b ≤ a + 20) (hab : a ≤ b) (o : Srt lt g a b) (out : ∀ p, p < a ∨ b ≤ p → g p = f p) : BU lt 20 g b := by
  intro p q h1 h2 h3
  by_cases c : q < a
  · rw [out p (by omega), out q (by omega)]; exact h p q h1 c h3
  · exact o p q (by omega) h1 h2
theorem bt_start {s : Nat} {f : Nat → α} {n : Nat} (h : BU lt s f n) : BT lt s f 0 n := fun p q _ h1 h2 h3 => h p q h1 h2 h3
theorem bu_zero (s : Nat) (f : Nat → α) : BU lt s f 0 := fun p q h1 h2 => by omega
theorem bt_left {s : Nat} {f : Nat → α} {a n b : Nat} (hs : Sz s) (h : BT lt s f a n) (ha : a % (2 * s) = 0) (hb : b ≤ a + s) (hn : b ≤ n) : Srt lt f a b := by
  intro p q h1 h2 h3
  refine h p q h1 h2 (by omega) ?_
  rcases hs with rfl | rfl | rfl | rfl <;> omega
theorem bt_right {s : Nat} {f : Nat → α} {a n b : Nat} (hs : Sz s) (h : BT lt s f a n) (ha : a % (2 * s) = 0) (hb : b ≤ a + 2 * s) (hn : b ≤ n) : Srt lt f (a + s) b := by
  intro p q h1 h2 h3
  refine h p q (by omega) h2 (by omega) ?_
  rcases hs with rfl | rfl | rfl | rfl <;> omega
theorem bu_more {s : Nat} {f g : Nat → α} {a b : Nat} (hs : Sz s) (h : BU lt (2 * s) f a) (ha : a % (2 * s) = 0) (hab : a ≤ b) (hb : b ≤ a + 2 * s) (o : Srt lt g a b) (out : ∀ p, p < a ∨ b ≤ p → g p = f p) : BU lt (2 * s) g b := by
  intro p q h1 h2 h3
  by_cases c : q < a
  · rw [out p (by omega), out q (by omega)]; exact h p q h1 c h3
  · refine o p q ?_ h1 h2
    rcases hs with rfl | rfl | rfl | rfl <;> omega
theorem bt_more {s : Nat} {f g : Nat → α} {a b n : Nat} (h : BT lt s f a n) (hab : a ≤ b) (out : ∀ p, p < a ∨ b ≤ p → g p = f p) : BT lt s g b n := by
  intro p q h0 h1 h2 h3
  rw [out p (by omega), out q (by omega)]
  exact h p q (by omega) h1 h2 h3
theorem bu_all {s : Nat} {f : Nat → α} {n : Nat} (hs : n ≤ s) (h : BU lt s f n) : Srt lt f 0 n := fun p q _ h1 h2 => h p q h1 h2 (by rw [Nat.div_eq_of_lt (by omega), Nat.div_eq_of_lt (by omega)])
theorem mod_more {s a : Nat} (hs : Sz s) (ha : a % (2 * s) = 0) : (a + 2 * s) % (2 * s) = 0 := by rw [Nat.add_mod_right]; exact ha
theorem sz_two {s n : Nat} (hs : Sz s) (h : s < n) (hn : n ≤ 300) : Sz (s * 2) ∨ n ≤ s * 2 := by
  unfold Sz at *
  omega
end
end SoPlain
