/- Package lag: the greatest lag, plain: it does not hang on the order. No condition. -/
import Derived.Test.YtiemhmaijiifkaaLaG
set_option linter.unusedVariables false
namespace Go.Proofs.Ytiemhmaijiifkaa.LaH
open Go.Proofs.Ytiemhmaijiifkaa.RaC Go.Proofs.Ytiemhmaijiifkaa.RaK Go.Proofs.Ytiemhmaijiifkaa.LaC Go.Proofs.Ytiemhmaijiifkaa.LaE WhPlain RaPlain
theorem tr {a b c d e f : Int} (hb : 0 < b) (hd : 0 < d) (hf : 0 < f) (h1 : a * d ≤ c * b) (h2 : c * f ≤ e * d) : a * f ≤ e * b := by
  have h3 : a * d * f ≤ c * b * f := Int.mul_le_mul_of_nonneg_right h1 (by omega)
  have h4 : c * f * b ≤ e * d * b := Int.mul_le_mul_of_nonneg_right h2 (by omega)
  have h5 : a * f * d ≤ e * b * d := by
    have e1 : a * f * d = a * d * f := by rw [Int.mul_assoc, Int.mul_comm f d, ← Int.mul_assoc]
    have e2 : c * b * f = c * f * b := by rw [Int.mul_assoc, Int.mul_comm b f, ← Int.mul_assoc]
    have e3 : e * d * b = e * b * d := by rw [Int.mul_assoc, Int.mul_comm d b, ← Int.mul_assoc]
    omega
  exact Int.le_of_mul_le_mul_right h5 hd
theorem absq_R {x : Int × Int} (h : R x) : R (absq x) := ⟨h.pos, by have := h.low; unfold absq Int.gcd at *; simpa using this⟩
theorem cmp3_pos {a b : Int} (h : 0 < cmp3 a b) : b < a := by
  unfold cmp3 at h
  split at h <;> (try split at h) <;> omega
theorem cmp3_npos {a b : Int} (h : ¬ 0 < cmp3 a b) : a ≤ b := by
  unfold cmp3 at h
  split at h <;> (try split at h) <;> omega
/-- m is the greatest of those seen. -/
structure Mx (x : Nat → Int × Int) (S : Nat → Prop) (m : Int × Int) : Prop where
  r : R m
  p : 0 ≤ m.1
  w : m = (0, 1) ∨ ∃ i, S i ∧ m = absq (x i)
  t : ∀ i, S i → (absq (x i)).1 * m.2 ≤ m.1 * (absq (x i)).2
  q : ∀ i, S i → 0 < (absq (x i)).2
variable {x : Nat → Int × Int} {S S' : Nat → Prop} {m m' : Int × Int}
theorem Mx.start : Mx x (fun _ => False) (0, 1) := ⟨⟨by decide, by decide⟩, by decide, .inl rfl, fun _ h => h.elim, fun _ h => h.elim⟩
theorem Mx.congr (h : Mx x S m) (hS : ∀ i, S i ↔ S' i) : Mx x S' m :=
  ⟨h.r, h.p, h.w.imp id (fun ⟨i, h1, h2⟩ => ⟨i, (hS i).1 h1, h2⟩), fun i hi => h.t i ((hS i).2 hi), fun i hi => h.q i ((hS i).2 hi)⟩
theorem Mx.le (h : Mx x S m) (h' : Mx x S m') : m.1 * m'.2 ≤ m'.1 * m.2 := by
  rcases h.w with rfl | ⟨i, hi, rfl⟩
  · have := h'.p
    show 0 * m'.2 ≤ m'.1 * 1
    omega
  · exact h'.t i hi
theorem Mx.uniq (h : Mx x S m) (h' : Mx x S m') : m = m' := h.r.unique h'.r (by have := h.le h'; have := h'.le h; omega)
theorem Mx.see (h : Mx x S m) (j : Nat) (hx : R (x j)) : Mx x (fun i => S i ∨ i = j) (best m (x j)) := by
  have ha := absq_R hx
  unfold best
  split
  · rename_i hc
    have hlt := cmp3_pos hc
    refine ⟨ha, by show (0 : Int) ≤ ((x j).1.natAbs : Int); omega, .inr ⟨j, .inr rfl, rfl⟩, ?_, ?_⟩
    · rintro i (hi | rfl)
      · exact tr (h.q i hi) h.r.pos ha.pos (h.t i hi) (Int.le_of_lt hlt)
      · exact Int.le_refl _
    · rintro i (hi | rfl)
      · exact h.q i hi
      · exact ha.pos
  · rename_i hc
    have hle := cmp3_npos hc
    refine ⟨h.r, h.p, h.w.imp id (fun ⟨i, h1, h2⟩ => ⟨i, .inl h1, h2⟩), ?_, ?_⟩
    · rintro i (hi | rfl)
      · exact h.t i hi
      · exact hle
    · rintro i (hi | rfl)
      · exact h.q i hi
      · exact ha.pos
/-- The other order: its own inverse. -/
def turn (n t i : Nat) : Nat := (n - 1 - i + t) % n
theorem turn_lt {n t i : Nat} (h : 0 < n) : turn n t i < n := Nat.mod_lt _ h
theorem turn_turn {n t i : Nat} (h : i < n) : turn n t (turn n t i) = i := by
  unfold turn
  have h1 := Nat.div_add_mod (n - 1 - i + t) n
  have h2 := Nat.mod_lt (n - 1 - i + t) (by omega : 0 < n)
  generalize (n - 1 - i + t) % n = r at *
  generalize hq : (n - 1 - i + t) / n = q at *
  have e : n - 1 - r + t = i + n * q := by omega
  rw [e, Nat.add_mul_mod_self_left, Nat.mod_eq_of_lt h]
theorem turn_all {n t : Nat} (k : Nat) : (∃ j, j < n ∧ k = turn n t j) ↔ k < n := by
  constructor
  · rintro ⟨j, hj, rfl⟩
    exact turn_lt (by omega)
  · intro h
    exact ⟨turn n t k, turn_lt (by omega), (turn_turn h).symm⟩
end Go.Proofs.Ytiemhmaijiifkaa.LaH
