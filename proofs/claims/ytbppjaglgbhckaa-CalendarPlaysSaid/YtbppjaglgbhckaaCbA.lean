/- Package calendar: what stands between the steps of CalendarPlays. No condition. -/
import Derived.Test.YtbppjaglgbhckaaCaZ
set_option linter.unusedVariables false
set_option linter.unusedSimpArgs false
namespace Go.Proofs.Ytbppjaglgbhckaa.CbA
open Go.RowKit Go.Proofs.Ytbppjaglgbhckaa.Kit Go.Proofs.Ytbppjaglgbhckaa.Kit2 Go.Proofs.Ytbppjaglgbhckaa.Kit4 Go.Proofs.Ytbppjaglgbhckaa.Kit5 Go.Proofs.Ytbppjaglgbhckaa.CaA Go.Proofs.Ytbppjaglgbhckaa.CaG Go.Proofs.Ytbppjaglgbhckaa.CaH Go.Proofs.Ytbppjaglgbhckaa.CaI Go.Proofs.Ytbppjaglgbhckaa.CaK Go.Proofs.Ytbppjaglgbhckaa.CaM Go.Proofs.Ytbppjaglgbhckaa.CaN Go.Proofs.Ytbppjaglgbhckaa.CaP Go.Proofs.Ytbppjaglgbhckaa.CaQ Go.Proofs.Ytbppjaglgbhckaa.CaR Go.Proofs.Ytbppjaglgbhckaa.CaT Go.Proofs.Ytbppjaglgbhckaa.CaX Go.Proofs.Ytbppjaglgbhckaa.CaY Go.Proofs.Ytbppjaglgbhckaa.CaZ
def its (ms : List De) : List It := ms.map (·.2)
theorem its_len (ms : List De) : (its ms).length = ms.length := by simp [its]
theorem its_at (ms : List De) (j : Nat) (x : De) (h : ms[j]? = some x) : (its ms)[j]? = some x.2 := by unfold its; rw [List.getElem?_map, h]; rfl
theorem its_back (ms : List De) (j : Nat) (y : It) (h : (its ms)[j]? = some y) : ∃ x, ms[j]? = some x ∧ x.2 = y := by
  unfold its at h
  rw [List.getElem?_map] at h
  exact Option.map_eq_some_iff.1 h
theorem its_drop (ms : List De) (k : Nat) : its (ms.drop k) = (its ms).drop k := by unfold its; rw [List.map_drop]
theorem its_ins (ms : List De) (i : Nat) (d : De) : its (ms.take i ++ [d] ++ ms.drop i) = ins (its ms) i d.2 := by
  unfold its ins
  simp [List.map_take, List.map_drop]
theorem its_left (ms : List De) (id : Int) : its (ms.filter (fun d => d.2.2 != id)) = left id (its ms) := by
  unfold its left
  rw [List.filter_map]
  congr 1
/-- The calendar and the model's row. -/
structure Pl (W w : World) (gq : Nat) (v : Value) (ms : List De) : Prop where
  st : St W w F0 gq (its ms)
  row : MR w W.heap.size v ms
theorem Pl.below {W w w' : World} {gq : Nat} {v : Value} {ms : List De} (h : Pl W w gq v ms) (hb : Below w.heap.size w w') : Pl W w' gq v ms := ⟨h.st.below' hb, h.row.below hb⟩
/-- How far the model goes down to put a deed. -/
structure Dn (ms : List De) (d : De) (i : Nat) : Prop where
  le : i ≤ ms.length
  hi : ∀ (j : Nat) (y : De), i ≤ j → ms[j]? = some y → dlt d.2 y.2 = true
theorem Dn.start (ms : List De) (d : De) : Dn ms d ms.length := ⟨Nat.le_refl _, fun j y hj hy => by have := (List.getElem?_eq_some_iff.1 hy).1; omega⟩
theorem Dn.down {ms : List De} {d y : De} {i : Nat} (h : Dn ms d (i + 1)) (hy : ms[i]? = some y) (hd : dlt d.2 y.2 = true) : Dn ms d i := ⟨by have := h.le; omega, fun j z hj hz => by
  by_cases e : j = i
  · subst e
    rw [hy] at hz
    cases hz
    exact hd
  · exact h.hi j z (by omega) hz⟩
theorem Dn.fin {ms : List De} {d : De} {i : Nat} (h : Dn ms d i) (hs : Srt (its ms)) (hl : ∀ (j : Nat) (y : De), j + 1 = i → ms[j]? = some y → dlt d.2 y.2 = false) : its (ms.take i ++ [d] ++ ms.drop i) = putL (its ms) d.2 := by
  rw [its_ins]
  refine ins_put hs d.2 i (by rw [its_len]; exact h.le) (fun j y hj hy => ?_) (fun j y hj hy => ?_)
  · obtain ⟨x, hx, rfl⟩ := its_back ms j y hy
    exact hl j x hj hx
  · obtain ⟨x, hx, rfl⟩ := its_back ms j y hy
    exact h.hi j x hj hx
/-- How many the model finds due. -/
structure Up (ms : List De) (t : Int) (n : Nat) : Prop where
  le : n ≤ ms.length
  lo : ∀ (j : Nat) (y : De), j < n → ms[j]? = some y → y.2.1 ≤ t
theorem Up.start (ms : List De) (t : Int) : Up ms t 0 := ⟨Nat.zero_le _, fun j y hj => by omega⟩
theorem Up.step {ms : List De} {t : Int} {n : Nat} {x : De} (h : Up ms t n) (hx : ms[n]? = some x) (hl : x.2.1 ≤ t) : Up ms t (n + 1) := ⟨(List.getElem?_eq_some_iff.1 hx).1, fun j y hj hy => by
  by_cases e : j = n
  · subst e
    rw [hx] at hy
    cases hy
    exact hl
  · exact h.lo j y (by omega) hy⟩
theorem Up.fin {ms : List De} {t : Int} {n : Nat} (h : Up ms t n) (hn : ∀ y, ms[n]? = some y → ¬ y.2.1 ≤ t) : CaQ.due t (its ms) = n :=
  due_at t (its ms) n (fun j y hj hy => by obtain ⟨x, hx, rfl⟩ := its_back ms j y hy; exact h.lo j x hj hx) (by rw [its_len]; exact h.le) (fun y hy => by obtain ⟨x, hx, rfl⟩ := its_back ms n y hy; exact hn x hx)
/-- Whom the model keeps of the first n. -/
def kept (ms : List De) (id : Int) (n : Nat) : List De := (ms.take n).filter (fun d => d.2.2 != id)
theorem kept_step (ms : List De) (id : Int) (n : Nat) (x : De) (h : ms[n]? = some x) : kept ms id (n + 1) = kept ms id n ++ (if x.2.2 != id then [x] else []) := by
  obtain ⟨hl, hx⟩ := List.getElem?_eq_some_iff.1 h
  unfold kept
  rw [List.take_succ_eq_append_getElem hl, List.filter_append, hx]
  cases hd : (x.2.2 != id) <;> simp [List.filter_cons, hd]
theorem kept_all (ms : List De) (id : Int) : its (kept ms id ms.length) = left id (its ms) := by
  unfold kept
  rw [List.take_length, its_left]
theorem kept_le (ms : List De) (id : Int) (n : Nat) : (kept ms id n).length ≤ ms.length := by
  unfold kept
  have h1 := List.length_filter_le (fun d : De => d.2.2 != id) (ms.take n)
  have h2 := List.length_take_le n ms
  have : (ms.take n).length ≤ ms.length := by rw [List.length_take]; omega
  omega
end Go.Proofs.Ytbppjaglgbhckaa.CbA
