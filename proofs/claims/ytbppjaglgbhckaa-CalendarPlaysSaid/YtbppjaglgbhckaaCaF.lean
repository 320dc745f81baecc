/- Package calendar, sixth text: a row of items written into, cut short, cleared behind. No condition. -/
import Derived.Test.YtbppjaglgbhckaaCaD
import Derived.Laws.IdiomCopy
set_option linter.unusedVariables false
set_option linter.unusedSimpArgs false
namespace Go.Proofs.Ytbppjaglgbhckaa.CaF
open Go.RowKit Go.Proofs.Ytbppjaglgbhckaa.Kit Go.Proofs.Ytbppjaglgbhckaa.CaA Go.Proofs.Ytbppjaglgbhckaa.CaB Go.Proofs.Ytbppjaglgbhckaa.CaC Go.Proofs.Ytbppjaglgbhckaa.CaD
open Go.Proofs.YtbppjaglgbhckaaW.PrintWords (setCells_row setCells_far setCells_same)
theorem flat_take (xs : List It) (k : Nat) : (flat xs).take (k * 2) = flat (xs.take k) := by
  induction xs generalizing k with
  | nil => simp [flat]
  | cons x r ih =>
    rcases k with _ | k
    · simp [flat]
    · have hc : flat (x :: r) = .int .i64 x.1 :: .int .i64 x.2 :: flat r := rfl
      rw [hc, show (k + 1) * 2 = k * 2 + 1 + 1 by omega, List.take_succ_cons, List.take_succ_cons, ih]
      rfl
theorem flat_drop (xs : List It) (k : Nat) : (flat xs).drop (k * 2) = flat (xs.drop k) := by
  induction xs generalizing k with
  | nil => simp [flat]
  | cons x r ih =>
    rcases k with _ | k
    · simp
    · have hc : flat (x :: r) = .int .i64 x.1 :: .int .i64 x.2 :: flat r := rfl
      rw [hc, show (k + 1) * 2 = k * 2 + 1 + 1 by omega, List.drop_succ_cons, List.drop_succ_cons, ih]
      rfl
theorem flat_set (ys : List It) (k : Nat) (x : It) (hk : k < ys.length) : flat (ys.set k x) = (flat ys).take (k * 2) ++ [.int .i64 x.1, .int .i64 x.2] ++ (flat ys).drop ((k + 1) * 2) := by
  rw [List.set_eq_take_append_cons_drop, if_pos hk, flat_app, flat_take, flat_drop, List.append_assoc]
  rfl
theorem take_take {α : Type} (l : List α) {a b : Nat} (h : a ≤ b) : (l.take b).take a = l.take a := by rw [List.take_take, Nat.min_eq_left h]
theorem splice {α : Type} (l vs : List α) (o N : Nat) (h : o + vs.length ≤ N) (hl : N ≤ l.length) : (l.take o ++ vs ++ l.drop (o + vs.length)).take N = (l.take N).take o ++ vs ++ (l.take N).drop (o + vs.length) := by
  have h1 : (l.take o ++ vs).length = o + vs.length := by rw [List.length_append, List.length_take]; omega
  rw [List.take_append, h1, List.take_of_length_le (by omega), take_take l (by omega), List.drop_take]
/-- One item written. -/
theorem Row.write {w : World} {B g n cap : Nat} {t : TypeId} {ys : List It} (h : Row w B t (.slice (some ⟨g, 0, none⟩) n cap) ys) (k : Nat) (x : It) (hk : k < ys.length) :
    Row (w.setCells g (k * 2) [.int .i64 x.1, .int .i64 x.2]) B t (.slice (some ⟨g, 0, none⟩) n cap) (ys.set k x) := by
  obtain ⟨hl, ⟨h0, _⟩ | ⟨g', cap', cur, hv, hB, hg, hn, hm, hs, ht⟩⟩ := h
  · simp at h0
  · simp at hv
    obtain ⟨rfl, rfl, rfl⟩ := hv
    obtain ⟨cur', h1, h2, h3⟩ := setCells_row [.int .i64 x.1, .int .i64 x.2] (k * 2) w cur hg (by simp; omega)
    refine ⟨by rw [flat_len], .inr ⟨g, cap, cur', by simp, hB, h1, by simpa using hn, hm, by rw [h2, hs], ?_⟩⟩
    have hcl : cur.toList.length = cap * 2 := by rw [Array.length_toList]; exact hs
    rw [h3, List.length_set, flat_set ys k x hk, ← ht, show (k + 1) * 2 = k * 2 + [Value.int .i64 x.1, .int .i64 x.2].length by simp; omega]
    exact splice _ _ _ _ (by simp; omega) (by omega)
/-- Cut short, and whatever stored behind. -/
theorem Row.cut {w : World} {B g n cap : Nat} {t : TypeId} {ys : List It} (h : Row w B t (.slice (some ⟨g, 0, none⟩) n cap) ys) (i : Nat) (hi : i ≤ ys.length) (vs : List Value) (hvs : vs.length = (ys.length - i) * 2) :
    Row (w.setCells g (i * 2) vs) B t (.slice (some ⟨g, 0, none⟩) i cap) (ys.take i) := by
  obtain ⟨hl, ⟨h0, _⟩ | ⟨g', cap', cur, hv, hB, hg, hn, hm, hs, ht⟩⟩ := h
  · simp at h0
  · simp at hv
    obtain ⟨rfl, rfl, rfl⟩ := hv
    obtain ⟨cur', h1, h2, h3⟩ := setCells_row vs (i * 2) w cur hg (by omega)
    have hti : (ys.take i).length = i := by rw [List.length_take]; omega
    have hcl : cur.toList.length = cap * 2 := by rw [Array.length_toList]; exact hs
    refine ⟨by rw [flat_len], .inr ⟨g, cap, cur', by rw [hti], hB, h1, by omega, hm, by rw [h2, hs], ?_⟩⟩
    rw [hti, h3, List.append_assoc, List.take_append_of_le_length (by rw [List.length_take]; omega), List.take_take, Nat.min_self, ← flat_take, ← ht, take_take _ (by omega)]
theorem chg_set (w : World) (g o : Nat) (vs : List Value) : Chg w (w.setCells g o vs) (fun k => k = g) := by
  obtain ⟨h1, h2, h3, h4⟩ := setCells_same g vs o w
  exact ⟨h1, h2, h3, by omega, fun k _ hk => setCells_far vs o k hk⟩
/-- clear(s) of a slice of items. -/
theorem run_clear (w : World) (ty : TypeId) (g o n c : Nat) (hc : ∀ j, j < n * 2 → (w.cell? ⟨g, o + j, none⟩).isSome = true) (hf : ∀ j, j < n * 2 → w.frozen? ⟨g, o + j, none⟩ = false) :
    ∃ vs : List Value, vs.length = n * 2 ∧ (Builtin.clear_ #[40] ty #[.slice (some ⟨g, o, none⟩) n c]).run Try.prog w = .ok (.tuple #[]) (w.setCells g o vs) := by
  have hv : ∀ w, (zeroValue 44).run Try.prog w = .ok (.agg #[.int .i64 0, .int .i64 0]) w := fun w => by
    obtain ⟨i, hi, hz, _⟩ := info_it
    simp [zeroValue, typeInfo, hi, hz]
  refine ⟨(Builtin.zeroCells (Value.agg #[.int .i64 0, .int .i64 0]).cells n).toList, ?_, ?_⟩
  · have : (Value.agg #[.int .i64 0, .int .i64 0]).cells = #[.int .i64 0, .int .i64 0] := rfl
    rw [this]
    simp [Builtin.zeroCells]
  · have hone : ∀ v ∈ (Builtin.zeroCells (Value.agg #[.int .i64 0, .int .i64 0]).cells n).toList, v.oneCell' = true := by
      have : (Value.agg #[.int .i64 0, .int .i64 0]).cells = #[.int .i64 0, .int .i64 0] := rfl
      rw [this]
      intro v hv
      simp only [Builtin.zeroCells, Array.toList_map, List.mem_map] at hv
      obtain ⟨i, _, rfl⟩ := hv
      have h2 : (#[Value.int .i64 0, .int .i64 0] : Array Value).size = 2 := rfl
      rw [h2]
      rcases Nat.mod_two_eq_zero_or_one i with h | h <;> rw [h] <;> rfl
    have hlen : (Builtin.zeroCells (Value.agg #[.int .i64 0, .int .i64 0]).cells n).toList.length = n * 2 := by
      have : (Value.agg #[.int .i64 0, .int .i64 0]).cells = #[.int .i64 0, .int .i64 0] := rfl
      rw [this]
      simp [Builtin.zeroCells]
    have hst := run_storeCells_cells (P := Try.prog) g o _ 0 w (by rw [hlen]; simpa using hc) (by rw [hlen]; simpa using hf) hone
    simp only [Nat.add_zero] at hst
    cases n with
    | zero =>
      have : (Builtin.zeroCells (Value.agg #[.int .i64 0, .int .i64 0]).cells 0).toList = [] := List.eq_nil_of_length_eq_zero (by rw [hlen])
      rw [this]
      simp [Builtin.clear_, run_underlying Try.underlying40, World.setCells]
    | succ m => simp [Builtin.clear_, run_underlying Try.underlying40, hv, hst]
end Go.Proofs.Ytbppjaglgbhckaa.CaF
